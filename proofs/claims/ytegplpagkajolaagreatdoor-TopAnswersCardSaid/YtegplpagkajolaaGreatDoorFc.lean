/-
  A FRAMEWORK OF MY OWN (3): loops, states that say less, rewriting rules, sorting, and the bridge from a row's reading to a walk.
-/
import Derived.Test.YtegplpagkajolaaGreatDoorFb
import Derived.ProofKit
import Derived.Deep.Slices
import Derived.OpenShut
import Derived.RangeFuncCalls
import Derived.RangeFuncLeaves
import Derived.RangeFuncOwn
import Derived.Shelf.Abstract
import Derived.WalkKit
import Derived.OwnWalkIn
import Derived.TacticsInMore
import Derived.LoopNIn
import Derived.LoopIn
import Derived.RegionIn
import Derived.Lib.IndexLaws
import Derived.Shelf.SlSortCmp.NoneTotal
set_option linter.unusedSimpArgs false
set_option linter.unusedVariables false
set_option maxRecDepth 100000
set_option maxHeartbeats 8000000
namespace Go.AI
theorem ZE {id:Nat}:∀{k k':List Item},exitTo id k=some k'->k'.length<k.length
 |[],_,h=>by cases h
 |x::k,k',h=>by
  cases x<;>simp only[exitTo]at h<;>first
   | (have:=ZE h;simp;omega)
   | (split at h
      ·cases h;simp
      ·have:=ZE h;simp;omega)
theorem OT {P:Program}{m0 m0' m1 m:Machine}(h0:step P m0=.next m1)(h0':step P m0'=.next m1)(hne:m≠m0)(h:Steps P m0 m):Steps P m0' m:=by
 obtain⟨n,hn⟩:=h;cases n with
 |zero=>simp only[runN]at hn;cases hn;exact absurd rfl hne
 |succ n=>simp only[runN,h0]at hn;exact .head h0' ⟨n,hn⟩
theorem Mu {b b':Frame}{a a':Act}{k k':List Item}{cs cs':List Frame}{w w':World}(h:lone (b.at a k) cs w=lone (b'.at a' k') cs' w'):k=k':=by
 have h1:=dH Machine.gs h;simp[lone,Frame.at]at h1;exact h1.1.2.2.1
theorem Ug {P:Program}{Q:Fin}(hg:∀l a w,¬Q (.goto l) a w)(ho:∀a w,¬Q .outgrown a w){c:Code}{a:Act}{w:World}(h:c.wp P (Exit.then ((Code.loop c).wp P Q) Q) a w):(Code.loop c).wp P Q a w:=by
 intro b k cs;obtain⟨e,a₁,w₁,hq,harr⟩:=h b (.inLoop c::k) cs;cases e with
 |normal=>
  obtain⟨e₂,a₂,w₂,hq₂,harr₂⟩:=hq b k cs;refine⟨e₂,a₂,w₂,hq₂,?_⟩;refine .of_steps (Steps.head step_loop harr) ?_;have s1:=step_loop (P:=P) (b:=b) (a:=a₁) (k:=k) (cs:=cs) (w:=w₁) (c:=c);have s2:=step_inLoop (P:=P) (b:=b) (a:=a₁) (k:=k) (cs:=cs) (w:=w₁) (c:=c);cases e₂ with
  |normal=>exact OT s1 s2 (fun e=>by have:=dH List.length (Mu e);simp at this) harr₂
  |exit id=>exact fun k' hk=>OT s1 s2 (fun e=>by have:=dH List.length (Mu e);have:=ZE hk;simp at*;omega) (harr₂ k' hk)
  |goto l=>exact absurd hq₂ (hg l a₂ w₂)
  |ret=>
   obtain⟨todo,hs⟩:=harr₂;exact⟨todo,OT s1 s2 (fun e=>by have h1:=dH Machine.gs e;simp[lone,Frame.at]at h1) hs⟩
  |panic ch=>
   obtain⟨todo,hs⟩:=harr₂;exact⟨todo,OT s1 s2 (fun e=>by have h1:=dH Machine.gs e;simp[lone,Frame.at]at h1) hs⟩
  |outgrown=>exact absurd hq₂ (ho a₂ w₂)
 |exit id=>exact⟨_,a₁,w₁,hq,.of_steps (.one step_loop) (.pass (x:=.inLoop c) rfl (fun _ _=>.inl (by simp)) harr)⟩
 |goto l=>exact⟨_,a₁,w₁,hq,.of_steps (.one step_loop) (.pass (x:=.inLoop c) rfl (fun _ _=>.inl (by simp)) harr)⟩
 |ret=>exact⟨_,a₁,w₁,hq,.of_steps (.one step_loop) (.pass (x:=.inLoop c) rfl (fun _ _=>.inl (by simp)) harr)⟩
 |panic ch=>exact⟨_,a₁,w₁,hq,.of_steps (.one step_loop) (.pass (x:=.inLoop c) rfl (fun _ _=>.inl (by simp)) harr)⟩
 |outgrown=>exact⟨_,a₁,w₁,hq,.of_steps (.one step_loop) (.pass (x:=.inLoop c) rfl (fun _ _=>.inl (by simp)) harr)⟩
def Plain (R:Exit->X->Prop):Prop:=(∀l x,¬R (.goto l) x)/\∀x,¬R .outgrown x
theorem Plain.wI (P:Program)(fn:Func)(m:List (Nat×bC))(res:AV)(m':List (Nat×bC)):Plain (wI P fn m res m'):=
 ⟨(fun l x h=>by rcases h.1 with h|h<;>cases h),(fun x h=>by rcases h.1 with h|h<;>cases h)⟩
section
variable {ro : Option Nat} {dp : Nat} {J : Names -> (Nat -> Prop) -> World -> Prop}
theorem TO {E:Ctx}{R:Exit->X->Prop}{e:Exit}(he:(∃l,e=.goto l)\/e=.outgrown)(hp:∀x,¬R e x){a:Act}{w:World}:∀k,¬eP ro dp J E k (tL E R) e a w
 |[]=>fun⟨x,_,h⟩=>hp x h
 |i::k=>by rcases he with⟨l,rfl⟩|rfl<;>cases i<;>(simp only[eP];exact TO (by simp) hp k)
theorem CI.wp {P:Program}{nt:Nat}{R:Exit->X->Prop}(hm:P.follows .mixedOrders=true){c:Code}{k:List It}{x:X}(h:CI none dp J P nt R (.code c::k) x)(hk:clean k=true)(E:Ctx)(hP:E.P=P)(hn:E.nt=nt)(hJ:∀s σ I a w,pM E s σ I a w->J σ I w)(a:Act)(w:World)(hr:Rel E x.den a w):
  c.wp E.P (eP none dp J E k (tL E R)) a w:=(wpIn_wide (n:=dp)).1 ((BL hm h E hP hn hJ).1 (by simpa[clean,kJ]using hk) a w hr)
theorem CI.Rf {P:Program}{nt:Nat}{R:Exit->X->Prop}{c:Code}{k:List It}{x:X}(hk:clean k=true)
  (h:∀E:Ctx,E.P=P->E.nt=nt->(∀s σ I a w,pM E s σ I a w->J σ I w)->∀a w,Rel E x.den a w->c.wp E.P (eP none dp J E k (tL E R)) a w):CI none dp J P nt R (.code c::k) x:=
 .cut (by simpa[clean,kJ]using hk) fun E hP hn hJ a w hr=>(wpIn_wide (n:=dp)).2 (h E hP hn hJ a w hr)
theorem aQ.Cb {P:Program}{nt:Nat}{R:Exit->X->Prop}(hm:P.follows .mixedOrders=true)(hp:Plain R){c:Code}{k:List It}{x:X}(hk:clean k=true)
  (h:CI none dp J P nt R (.code c:: .code (.loop c)::k) x):aQ none dp J P nt R c k x:=by
 intro E hP hn hJ a w hr;have:=CI.wp hm h (by simpa[clean,kJ]using hk) E hP hn hJ a w hr;subst hP;refine(wpIn_wide (n:=dp)).2 (Ug (fun l a w=>TO (.inl ⟨l,rfl⟩) (hp.1 l) k) (fun a w=>TO (.inr rfl) hp.2 k) (wp_mono this (fun e a w h=>?_)));cases e<;>simp only[eP,Exit.then]at h⊢<;>first|exact h|exact(wpIn_wide (n:=dp)).1 h
end
theorem M0 {p:Nat->Prop}(h:∃n,p n):∃n,p n/\∀m,p m->n<=m:=by
 obtain⟨n,hn⟩:=h;induction n using Nat.strongRecOn with
 |_ n ih=>
  by_cases h:∃m,m<n/\p m
  ·obtain⟨m,h1,h2⟩:=h;exact ih m h1 h2
  ·exact⟨n,hn,fun m hm=>Nat.le_of_not_lt (fun hlt=>h ⟨m,hlt,hm⟩)⟩
section
variable {ro : Option Nat} {dp : Nat} {J : Names -> (Nat -> Prop) -> World -> Prop}
open Classical in
theorem aQ.of {P:Program}{nt:Nat}{R:Exit->X->Prop}(hm:P.follows .mixedOrders=true){c:Code}{k:List It}(hk:clean k=true){ι:Type}(S:ι->X)(μ:ι->Nat)
  (h:∀i (B:X->Prop),(∀x j,(∀(E:Ctx) a w,Rel E x.den a w->Rel E (S j).den a w)->μ j<μ i->B x)->CI ro dp J P nt R (.code c:: .stop B::k) (S i))
  {x:X} (i:ι) (hx:∀(E:Ctx) a w,Rel E x.den a w->Rel E (S i).den a w):aQ ro dp J P nt R c k x:=by
 intro E hP hn hJ a w hr;subst hP
 let p:Act->World->Nat->Prop:=fun a w n=>∃i,μ i=n/\Rel E (S i).den a w
 have hp0:p a w (μ i):=⟨i,rfl,hx E a w hr⟩
 let M:Act->World->Nat:=fun a w=>if h:∃n,p a w n then(M0 h).choose else 0
 refine wpIn_loop (fun a w=>∃n,p a w n) M ⟨_,hp0⟩ ?_;intro a w hI;have hM:M a w=(M0 hI).choose:=dif_pos hI;obtain⟨⟨i,hi,hri⟩,hmin⟩:=(M0 hI).choose_spec
 let B:X->Prop:=fun x=>∃j,(∀(E:Ctx) a w,Rel E x.den a w->Rel E (S j).den a w)/\μ j<μ i
 have:=(BL hm (h i B (fun x j h1 h2=>⟨j,h1,h2⟩)) E rfl hn hJ).1 (by simpa[clean,kJ]using hk) a w hri;simp only[eP]at this;refine BO this (fun e a' w' hq=>?_);cases e with
 |normal=>
  simp only[eP,Exit.then]at hq⊢;obtain⟨x,hx,j,hj,hlt⟩:=hq;have hp:p a' w' (μ j):=⟨j,rfl,hj E a' w' hx⟩;refine⟨⟨_,hp⟩,?_⟩;have e1:M a' w'=(M0 ⟨_,hp⟩).choose:=dif_pos ⟨_,hp⟩;have:=(M0 ⟨_,hp⟩).choose_spec.2 _ hp;omega
 |_=>simpa only[eP,Exit.then]using hq
end
def gn (g:List (Nat×Nat))(b:Nat):Nat:=(lO g b).getD b
def PE (f:AV->AV)(g:Nat->Nat)(n:Nat)(xs:List (Nat×AV)):List (Nat×AV)->Prop
 |[]=>True
 | (t,v)::r=>(eJ (f (dB xs t)) (v.cF g)/\fX (fun b=>decide (b<n)) v=true)/\PE f g n xs r
def WJ (kp:Nat->Bool)(mm:Nat->Option bC):bC->bC
 |.cells cs T=>.cells (cs.map (fO kp mm 8)) T
 |k=>k
def CR :bC->bC->Prop
 |.cells xs T,.cells ys U=>eJ.leL xs ys/\T=U
 |.grow sz es T,.grow sz' fs U=>sz=sz'/\T=U/\(es=fs\/I8 (zH 4) es fs)
 |a,b=>a=b
def PF (gv:List Nat)(mm:Nat->Option bC)(f:bC->bC)(g:Nat->Nat)(n:Nat):List (Nat×bC)->Prop
 |[]=>True
 | (b,k)::r=>((∃k0,mm (g b)=some k0/\CR (f k0) (k.cF g))/\gv.contains (g b)=false/\b<n/\aW (fun b=>decide (b<n)) k=true)/\PF gv mm f g n r
structure TQ (x:X)(tm:List (Nat×AV))(m:List (Nat×bC))(nx:Nat)(g:List (Nat×Nat))(gv:List Nat):Prop where
 ht:PE (fO (fun b=>!gv.contains b) (dM x.mm) 8) (gn g) nx x.tm tm
 hm:PF gv (dM x.mm) (WJ (fun b=>!gv.contains b) (dM x.mm)) (gn g) nx m
 nd:(m.map fun p=>gn g p.1).Nodup
 lo:64<=nx
 hg:∀q∈g,64<=q.1
theorem Gt {f:AV->AV}{g:Nat->Nat}{n:Nat}{xs:List (Nat×AV)}:∀{ys:List (Nat×AV)},PE f g n xs ys->∀t,dB ys t=.any\/(eJ (f (dB xs t)) ((dB ys t).cF g)/\fX (fun b=>decide (b<n)) (dB ys t)=true)
 |[],_,t=>.inl (by simp[dB])
 | (u,v)::r,h,t=>by
   by_cases e:u=t
   ·subst e;exact .inr (by simp only[dB,eA];exact h.1)
   ·have:=Gt h.2 t;simp only[dB,aH e];exact this
theorem Gu {gv:List Nat}{mm:Nat->Option bC}{f:bC->bC}{g:Nat->Nat}{n:Nat}:∀{ys:List (Nat×bC)},PF gv mm f g n ys->∀b k,(b,k)∈ys->(∃k0,mm (g b)=some k0/\CR (f k0) (k.cF g))/\gv.contains (g b)=false/\b<n/\aW (fun b=>decide (b<n)) k=true
 |[],_,b,k,h=>by cases h
 | (u,v)::r,h,b,k,hk=>by
   rcases kN.1 hk with e|hk
   ·cases e;exact h.1
   ·exact Gu h.2 b k hk
theorem zfC {σ:Names}{I:Nat->Prop}{w:World}{a b:bC}{v:Value}(h:CR a b)(hv:RB σ I w a v):RB σ I w b v:=by
 cases a with
 |cells cs T=>
  cases b with
  |cells ds U=>
   obtain⟨h1,rfl⟩:=(by simpa[CR]using h:eJ.leL cs ds/\T=U);obtain⟨hl,hr⟩:=MH h1;cases hv with
   |cells hw hll hrr=>
    refine .cells hw (by omega) (fun i c x hc hx=>?_);have hlt:i<cs.length:=by rw[hl];exact(cC.1 hc).1
    exact RF (hrr i cs[i] x (cI hlt) hx) (hr i _ c (cI hlt) hc)
  |_=>simp[CR]at h
 |grow sz es T=>
  cases b with
  |grow sz' fs U=>
   obtain⟨rfl,rfl,h1⟩:=(by simpa only[CR]using h:sz=sz'/\T=U/\(es=fs\/I8 (zH 4) es fs));rcases h1 with rfl|h1
   ·exact hv
   ·obtain⟨hll,hlg⟩:=X0 h1;cases hv with
    |none=>
     obtain rfl:fs=[]:=jL (by simpa using hll.symm);exact .none
    |emp a=>
     obtain rfl:fs=[]:=jL (by simpa using hll.symm);exact .emp a
    | @grow _ _ _ n cap arr h2 h3 h4 h5 h6 h7=>
      rw[hll];refine .grow h2 h3 (by omega) h5 (fun e he=>?_) (fun i e j c he hc=>?_)
      ·obtain⟨i,hi⟩:=DN he;have hi':i<es.length:=by rw[hll];exact(cC.1 hi).1
       rw[<-(MJ (hlg i es[i] e (cI hi') hi)).1];exact h6 _ (lU _)
      ·have hi:i<es.length:=by rw[hll];exact(cC.1 he).1
       obtain⟨q1,q2⟩:=MJ (hlg i es[i] e (cI hi) he);have hj:j<es[i].length:=by rw[q1];exact(cC.1 hc).1
       obtain⟨x,g1,g2,g3⟩:=h7 i es[i] j es[i][j] (cI hi) (cI hj);exact⟨x,g1,Nf 4 (q2 j _ c (cI hj) hc) g2,g3⟩
  |_=>simp[CR]at h
 |_=>simp only[CR]at h;subst h;exact hv
theorem zcU {σ:Names}{I:Nat->Prop}{w:World}{mm:Mem}{kp:Nat->Bool}(hm:RM σ I w mm){k:bC}{v:Value}(h:RB σ I w k v):RB σ (given σ I mm kp) w (WJ kp mm k) v:=by
 cases h with
 |cells hw hl hr=>
  refine .cells hw (by simpa using hl) (fun i c x h1 h2=>?_);simp only[iJ]at h1;obtain⟨c',hc',rfl⟩:=qA.1 h1;exact LY hm 8 (hr i c' x hc' h2)
 |_=>exact RB.mono (fun _ _=>rfl) (fun n h=>.inl h) (fun _ _ h=>h) (fun _ _=>rfl) (by first|exact .none|exact .emp _|exact .grow ‹_› ‹_› ‹_› ‹_› ‹_› ‹_›|exact .map _ _ ‹_› ‹_› ‹_› ‹_› ‹_› ‹_›|exact .oW _ _ ‹_› ‹_› ‹_› ‹_› ‹_› ‹_› ‹_› ‹_› ‹_›|exact .iter ‹_› ‹_›|exact .zN|exact .yF _|exact .eW ‹_› ‹_› ‹_› ‹_› ‹_›)
theorem Rel.sub {E:Ctx}{x:X}{tm:List (Nat×AV)}{m:List (Nat×bC)}{nx:Nat}{g:List (Nat×Nat)}{gv:List Nat}(hs:TQ x tm m nx g gv){a:Act}{w:World}(h:Rel E x.den a w):Rel E (X.den ⟨tm,m.map (fun p=>(p.1,some p.2)),nx⟩) a w:=by
 obtain⟨σ,I,h⟩:=h;have hmx:RM σ I w (dM x.mm):=h.mm
 let kp:Nat->Bool:=fun b=>!gv.contains b
 let I':=given σ I (dM x.mm) kp
 let σ':Names:=fun b=>if b<nx then σ (gn g b)else none
 have hs':∀b,decide (b<nx)=true->∀y,σ (gn g b)=some y->σ' b=some y:=fun b hb y hy=>by simp only[σ'];rw[aU (by simpa using hb)];exact hy
 have hlk:dM (m.map fun p=>(p.1,some p.2))=bE m:=GH _;have hm:=Gu hs.hm;refine⟨σ',I',h.size,h.yN,fun t=>?_,⟨fun b k hb=>?_,fun b b' k k' u u' n h1 h2 h3 h4 h5 h6=>?_⟩,fun b hb=>?_,fun n hn=>?_,fun n hn=>.inl (h.i0 n hn),fun n hn=>?_,fun n hn=>?_,h.os,h.tape,h.output,h.hs,h.frame,fun b y hy=>?_,h.low⟩
 ·show RV σ' I' w (dB tm t) _;rcases Gt hs.ht t with e|⟨e1,e2⟩
  ·rw[e];exact .any _
  ·exact NW hs' (RF (LY hmx 8 (h.tm t)) e1) rfl e2
 ·have hb':bE m b=some k:=by rw[<-hlk];exact hb
  obtain⟨⟨k0,q1,q2⟩,q3,q4,q5⟩:=hm b k (nV hb');obtain⟨u,p1,p2,p3⟩:=hmx.bQ _ _ q1;refine⟨u,hs' b (by simpa using q4) u p1,J8 hs' (zfC q2 (zcU hmx p2)) q5,fun n hn=>⟨(p3 n hn).1,?_⟩⟩;rintro(h'|⟨b0,hk0,c,q,z,e,r1,r2,r3⟩)
  ·exact(p3 n hn).2 h'
  ·cases e;have:=hmx.apart _ _ _ _ _ _ n q1 r1 p1 r2 hn r3;subst this;simp only[kp,q3]at hk0;cases hk0
 ·have hb':bE m b=some k:=by rw[<-hlk];exact h1
  have hb'':bE m b'=some k':=by rw[<-hlk];exact h2
  obtain⟨⟨k0,q1,q2⟩,q3,q4,q5⟩:=hm b k (nV hb');obtain⟨⟨k0',q1',q2'⟩,q3',q4',q5'⟩:=hm b' k' (nV hb'');simp only[σ',aU q4]at h3;simp only[σ',aU q4']at h4;have:=hmx.apart _ _ _ _ _ _ n q1 q1' h3 h4 h5 h6;exact dH Prod.fst (XB hs.nd (nV hb') (nV hb'') this)
 ·have hb':nx<=b:=hb;simp only[σ'];rw[aH (by omega)]
 ·rcases hn with h'|⟨b0,hk0,c,q,z,e,r1,r2,r3⟩
  ·exact h.ib n h'
  ·obtain⟨u,p1,_,p3⟩:=hmx.bQ _ _ r1;rw[r2]at p1;cases p1;exact(p3 n r3).1
 ·rcases hn with h'|⟨b0,hk0,c,q,z,e,r1,r2,r3⟩
  ·exact h.lQ n h'
  ·exact .inr (h.kX n ⟨c,q,z,r1,r2,r3⟩)
 ·obtain⟨b,k,v,r1,r2,r3⟩:=hn;have hb':bE m b=some k:=by rw[<-hlk];exact r1
  obtain⟨⟨k0,q1,q2⟩,q3,q4,q5⟩:=hm b k (nV hb');simp only[σ',aU q4]at r2;exact h.kX n ⟨_,k0,v,q1,r2,r3⟩
 ·have hlt:b<64:=by
   rcases vX b 64 with h'|h'
   ·exact h'
   ·rw[h.low b h']at hy;cases hy
  have hgn:gn g b=b:=by
   have:∀{g:List (Nat×Nat)},(∀q∈g,64<=q.1)->lO g b=none:=by
    intro g;induction g with
    |nil=>intro _;rfl
    |cons q g ih=>
     intro hg;obtain⟨a1,a2⟩:=q;have:=hg (a1,a2) (by simp);simp only[lO];rw[aH (by omega)];exact ih fun q hq=>hg q (by simp[hq])
   simp[gn,this hs.hg]
  simp only[σ'];rw[aU (by have:=hs.lo;omega),hgn];exact h.keep b y hy
theorem Rel.j1 {E:Ctx}{x:X}{t b sz:Nat}{T:TypeId}(ht:dB x.tm t=.d (.v (.slice none 0 0)))(hb:x.nx<=b){a:Act}{w:World}(h:Rel E x.den a w):
  Rel E (X.den ⟨(t,.own b)::x.tm,(b,some (.grow sz [] T))::x.mm,b+1⟩) a w:=by
 obtain⟨σ,I,h⟩:=h;have hσ:σ b=none:=h.free b hb;have hmx:RM σ I w (dM x.mm):=h.mm;have ext:∀c y,σ c=some y->gP σ b (.slice none 0 0) c=some y:=by
  intro c y hc;unfold gP;split
  ·rename_i e;subst e;rw[hσ]at hc;cases hc
  ·exact hc
 have old:∀c y,c≠b->gP σ b (.slice none 0 0) c=some y->σ c=some y:=by
  intro c y hc hy;simpa[gP,hc]using hy
 have mm:∀c k,dM ((b,some (.grow sz [] T))::x.mm) c=some k->(c=b/\k=.grow sz [] T)\/(c≠b/\dM x.mm c=some k):=by
  intro c k hk;simp only[dM]at hk;split at hk
  ·rename_i e;cases hk;exact .inl ⟨e.symm,rfl⟩
  ·rename_i e;exact .inr ⟨tT e,hk⟩
 refine⟨gP σ b (.slice none 0 0),I,h.size,h.yN,fun s=>?_,⟨fun c k hc=>?_,fun c c' k k' u u' n h1 h2 h3 h4 h5 h6=>?_⟩,fun c hc=>?_,h.ib,h.i0,h.lQ,fun n hn=>?_,h.os,h.tape,h.output,h.hs,h.frame,fun c y hy=>ext _ _ (h.keep c y hy),h.low⟩
 ·show RV _ I w (dB ((t,.own b)::x.tm) s) _;simp only[dB];split
  ·rename_i e;subst e;have:=h.tm t;rw[show x.den.tm t=.d (.v (.slice none 0 0))from ht]at this;rw[fM this];exact .own (by simp[gP]) rfl
  ·exact(h.tm s).mono (fun _ _=>rfl) (fun _ h=>h) ext
 ·rcases mm c k hc with⟨rfl,rfl⟩|⟨hcb,hc⟩
  ·exact⟨_,by simp[gP],.none,fun n hn=>by cases hn⟩
  ·obtain⟨u,p1,p2,p3⟩:=hmx.bQ c k hc;exact⟨u,ext _ _ p1,p2.mono (fun _ _=>rfl) (fun _ h=>h) ext (fun _ _=>rfl),p3⟩
 ·rcases mm c k h1 with⟨rfl,rfl⟩|⟨hcb,hc⟩
  ·simp[gP]at h3;subst h3;cases h5
  ·rcases mm c' k' h2 with⟨rfl,rfl⟩|⟨hcb',hc'⟩
   ·simp[gP]at h4;subst h4;cases h6
   ·exact hmx.apart c c' k k' u u' n hc hc' (old _ _ hcb h3) (old _ _ hcb' h4) h5 h6
 ·have hc':b+1<=c:=hc;have:σ c=none:=h.free c (by show x.nx<=c;omega);simp only[gP];rw[aH (by omega)];exact this
 ·obtain⟨c,k,v,r1,r2,r3⟩:=hn;rcases mm c k r1 with⟨rfl,rfl⟩|⟨hcb,hc⟩
  ·simp[gP]at r2;subst r2;cases r3
  ·exact h.kX n ⟨c,k,v,hc,old _ _ hcb r2,r3⟩
section
variable {ro : Option Nat} {dp : Nat} {J : Names -> (Nat -> Prop) -> World -> Prop}
theorem CI.sub {P:Program}{nt:Nat}{R:Exit->X->Prop}{k:List It}{x:X}{tm:List (Nat×AV)}{m:List (Nat×bC)}{nx:Nat}(g:List (Nat×Nat))(gv:List Nat)(hk:clean k=true)(hs:TQ x tm m nx g gv)(h:CI ro dp J P nt R k ⟨tm,m.map (fun p=>(p.1,some p.2)),nx⟩):CI ro dp J P nt R k x:=
 .K1 hk (fun E a w hr=>Rel.sub hs hr) h
theorem CI.j1 {P:Program}{nt:Nat}{R:Exit->X->Prop}{k:List It}{x:X}(t sz:Nat)(T:TypeId)(hk:clean k=true)(ht:dB x.tm t=.d (.v (.slice none 0 0)))(h:CI ro dp J P nt R k ⟨(t,.own x.nx)::x.tm,(x.nx,some (.grow sz [] T))::x.mm,x.nx+1⟩):CI ro dp J P nt R k x:=
 .K1 hk (fun _ _ _ hr=>Rel.j1 ht (cM _) hr) h
theorem CI.cutAt {P:Program}{nt:Nat}{R:Exit->X->Prop}{k:List It}{x:X}(hm:P.follows .mixedOrders=true)(B:X->Prop){c:Code}(hk:clean k=true)(h1:CI ro dp J P nt R (.code c:: .stop B::k) x)(h2:∀y,B y->CI ro dp J P nt R k y):CI ro dp J P nt R (.code c::k) x:=by
 refine .cut (by simpa[clean,kJ]using hk) (fun E hP hn hJ a w hr=>?_);have:=(BL hm h1 E hP hn hJ).1 (by simpa[clean,kJ]using hk) a w hr;simp only[eP]at this⊢;refine BO this (fun e a w h=>?_);cases e with
 |normal=>
  simp only[eP]at h;obtain⟨y,hy,hb⟩:=h;exact(BL hm (h2 y hb) E hP hn hJ).1 hk a w hy
 |_=>simp only[eP]at h;exact h
end
attribute [simp] dB dM NQ xA NS NP NO J2 SJ OR ev TE X.app AT mM uG E3 pJ zE CQ tJ OS cellsOf lay EN DU qY TA RW OQ OK GZ SE GQ QU Q0 I6 TI.agg E7 CV SZ wrote wI Tv IM ED sJ kJ clean Value.oneCell' S5 A3 XG XL RY RX YA RL SQ HW G0 NN G4 LI GN JV M9 chunk QO Q4 K4 Q2 CS CS.go vA ME zK S1 ON Q3 NT YT L7 pX L9 TG SY M6 LM QK QJ QM K.nk YG yL jN CK.fits AV.cF bC.cF kL eO bE lO gf gn eJ X3 zH MK I8 eJ.leL strCells
@[simp] theorem pickA_true (x y:AV):CL true x y=x:=by unfold CL;split<;>rfl
@[simp] theorem pickA_false (x y:AV):CL false x y=y:=by unfold CL;split<;>rfl
@[simp] theorem pickA_bool (t x y:Bool):CL t (.d (.v (.bool x))) (.d (.v (.bool y)))=.d (.v (.bool (bif t then x else y))):=rfl
@[simp] theorem foot_mk (r:AV)(rd:List Nat)(wr:List (Nat×Option bC)):(aP.mk r rd wr).qP=(rd,wr.map (·.1)):=rfl
theorem wrap_i64 {n:Int}(h1: -9223372036854775808<=n)(h2:n<=9223372036854775807):IntKind.wrap .i64 n=n:=N8 n ⟨h1,h2⟩
attribute [simp] wrap_i64
theorem Tc (r:Int):C5 .i64 r 3=0\/C5 .i64 r 3=1\/C5 .i64 r 3=2\/C5 .i64 r 3=3:=by
 have h:(BitVec.ofInt (IntKind.bits .i64) r&&&BitVec.ofInt (IntKind.bits .i64) 3).toNat<=3:=by
  rw[BitVec.toNat_and];exact fV Nat.and_le_right (by decide)
 simp only[C5];generalize(BitVec.ofInt (IntKind.bits .i64) r&&&BitVec.ofInt (IntKind.bits .i64) 3).toNat=q at h;rw[wrap_i64 (by omega) (by omega)];omega
section
variable {ro : Option Nat} {dp : Nat} {J : Names -> (Nat -> Prop) -> World -> Prop}
theorem CI.Sg {P:Program}{nt:Nat}{R:Exit->X->Prop}{ops:Array Oper}{o:Oper}{rest:List Oper}{i:Nat}{ft:List (List Nat×List Nat)}{draw:Bool}{k:List It}{x:X}{c:Call}{fo:Operand}{f:FuncId}{first captured:List AV}{args:List AV}{mr m m':List (Nat×bC)}{res:AV}(bn:List Nat)
  (hct:Ct P f args mr m res m') (hen:Enters P f) (ho:o.op=.call c) (hc:c.callee=.value fo) (hdst:mM nt o.dst=true) (hg:o.guard=none\/∃g wa,o.guard=some (g,wa)/\pJ ops g (dB x.tm)=some wa)
  (hf:sJ (ev (dB x.tm) fo)=some (f,first,captured)) (ha:eJ.leL (first++c.args.toList.map (ev (dB x.tm))++captured) (args.map (AV.cF (eO bn (x.nx+64*i))))) (hn:z8 bn args mr m res m')
  (hk:∀p∈mr++m,dM x.mm (eO bn (x.nx+64*i) p.1)=some (p.2.cF (eO bn (x.nx+64*i))))
  (h:CI ro dp J P nt R (.ops ops rest (i+1) (ft++[(kL bn (x.nx+64*i) mr m res m').qP]) draw::k) (x.app o.dst (kL bn (x.nx+64*i) mr m res m'))):CI ro dp J P nt R (.ops ops (o::rest) i ft draw::k) x:=
 .op _ hdst hg ((Jn ho hc _ _ _ hf hen hct ha hn hk).qC (by simp[xW,ho])) h
theorem CI.Z2 {P:Program}{nt:Nat}{R:Exit->X->Prop}{ops:Array Oper}{o:Oper}{rest:List Oper}{i:Nat}{ft:List (List Nat×List Nat)}{draw:Bool}{k:List It}{x:X}{c:Call}{fo:Operand}{f:FuncId}{first captured:List AV}{args:List AV}{res:AV}
  (hct:Ct P f args [] [] res []) (hen:Enters P f) (ho:o.op=.call c) (hc:c.callee=.value fo) (hdst:mM nt o.dst=true) (hg:o.guard=none\/∃g wa,o.guard=some (g,wa)/\pJ ops g (dB x.tm)=some wa)
  (hf:sJ (ev (dB x.tm) fo)=some (f,first,captured)) (ha:eJ.leL (first++c.args.toList.map (ev (dB x.tm))++captured) (args.map (AV.cF (eO [] (x.nx+64*i))))) (hnA:fX.mH (fun b=>decide (b<0)) args=true) (hnR:fX (fD 0) res=true)
  (h:CI ro dp J P nt R (.ops ops rest (i+1) (ft++[([],[])]) draw::k) ⟨AT o.dst (res.cF (eO [] (x.nx+64*i))) x.tm,x.mm,x.nx⟩):CI ro dp J P nt R (.ops ops (o::rest) i ft draw::k) x:=
 .Sg [] hct hen ho hc hdst hg hf ha ⟨by simp,by simp,hnA,by simp,by simp,hnR,by simp,by simp⟩ (by simp) h
section
variable {P : Program} {nt : Nat} {R : Exit -> X -> Prop} {st n : Nat} {k : List It} {x : X}
@[simp] theorem runI_nil :cJ ro dp J P nt R st (n+1) [] x=R .normal x:=propext nM
@[simp] theorem runI_stop {B:X->Prop}:cJ ro dp J P nt R st (n+1) (.stop B::k) x=B x:=propext nM
@[simp] theorem runI_blk {id:Nat}:cJ ro dp J P nt R st (n+1) (.bQ id::k) x=cJ ro dp J P nt R st n k x:=propext nM
@[simp] theorem runI_br_true {a b:Code}:cJ ro dp J P nt R st (n+1) (.br (.d (.v (.bool true))) a b::k) x=cJ ro dp J P nt R st n (.code a::k) x:=propext nM
@[simp] theorem runI_br_ab {a b:Code}:cJ ro dp J P nt R st (n+1) (.br .ab a b::k) x=(cJ ro dp J P nt R st n (.code a::k) x/\cJ ro dp J P nt R st n (.code b::k) x):=propext nM
@[simp] theorem runI_br_false {a b:Code}:cJ ro dp J P nt R st (n+1) (.br (.d (.v (.bool false))) a b::k) x=cJ ro dp J P nt R st n (.code b::k) x:=propext nM
@[simp] theorem runI_ops_nil {ops:Array Oper}{i:Nat}{ft:List (List Nat×List Nat)}:cJ ro dp J P nt R st (n+1) (.ops ops [] i ft false::k) x=cJ ro dp J P nt R st n k ⟨x.tm,x.mm,x.nx+64*i⟩:=propext nM
@[simp] theorem runI_ops_nil_draw {ops:Array Oper}{i:Nat}{ft:List (List Nat×List Nat)}:cJ ro dp J P nt R st (n+1) (.ops ops [] i ft true::k) x=(nY ops ft/\cJ ro dp J P nt R st n k ⟨x.tm,x.mm,x.nx+64*i⟩):=propext nM
@[simp] theorem runI_ops_cons {ops:Array Oper}{dst:Option Tmp}{op:Op}{ty:TypeId}{pos:String}{eP:Array Edge}{rest:List Oper}{i:Nat}{ft:List (List Nat×List Nat)}{d:Bool}:
   cJ ro dp J P nt R st (n+1) (.ops ops (⟨dst,op,ty,pos,eP,none⟩::rest) i ft d::k) x=cJ ro dp J P nt R st n (.uL (xA P ⟨dst,op,ty,pos,eP,none⟩ (dB x.tm) (dM x.mm) (x.nx+64*i)) ops ⟨dst,op,ty,pos,eP,none⟩ rest i ft d::k) x:=propext nM
@[simp] theorem runI_ops_guard {ops:Array Oper}{dst:Option Tmp}{op:Op}{ty:TypeId}{pos:String}{eP:Array Edge}{g:Nat}{wa:Bool}{rest:List Oper}{i:Nat}{ft:List (List Nat×List Nat)}{d:Bool}:
   cJ ro dp J P nt R st (n+1) (.ops ops (⟨dst,op,ty,pos,eP,some (g,wa)⟩::rest) i ft d::k) x=cJ ro dp J P nt R st n (.gd (E3 ops g (dB x.tm)) wa ops ⟨dst,op,ty,pos,eP,some (g,wa)⟩ rest i ft d::k) x:=propext nM
@[simp] theorem runI_gd_tt {ops:Array Oper}{o:Oper}{rest:List Oper}{i:Nat}{ft:List (List Nat×List Nat)}{d:Bool}:
   cJ ro dp J P nt R st (n+1) (.gd (.d (.v (.bool true))) true ops o rest i ft d::k) x=cJ ro dp J P nt R st n (.uL (xA P o (dB x.tm) (dM x.mm) (x.nx+64*i)) ops o rest i ft d::k) x:=propext nM
@[simp] theorem runI_gd_ff {ops:Array Oper}{o:Oper}{rest:List Oper}{i:Nat}{ft:List (List Nat×List Nat)}{d:Bool}:
   cJ ro dp J P nt R st (n+1) (.gd (.d (.v (.bool false))) false ops o rest i ft d::k) x=cJ ro dp J P nt R st n (.uL (xA P o (dB x.tm) (dM x.mm) (x.nx+64*i)) ops o rest i ft d::k) x:=propext nM
@[simp] theorem runI_gd_tf {ops:Array Oper}{o:Oper}{rest:List Oper}{i:Nat}{ft:List (List Nat×List Nat)}{d:Bool}:
   cJ ro dp J P nt R st (n+1) (.gd (.d (.v (.bool true))) false ops o rest i ft d::k) x=(mM nt o.dst=true/\cJ ro dp J P nt R st n (.ops ops rest (i+1) (ft++[([],[])]) d::k) (x.app o.dst ⟨.d (.v undef),[],[]⟩)):=propext nM
@[simp] theorem runI_gd_ft {ops:Array Oper}{o:Oper}{rest:List Oper}{i:Nat}{ft:List (List Nat×List Nat)}{d:Bool}:
   cJ ro dp J P nt R st (n+1) (.gd (.d (.v (.bool false))) true ops o rest i ft d::k) x=(mM nt o.dst=true/\cJ ro dp J P nt R st n (.ops ops rest (i+1) (ft++[([],[])]) d::k) (x.app o.dst ⟨.d (.v undef),[],[]⟩)):=propext nM
@[simp] theorem runI_gd_un {ops:Array Oper}{o:Oper}{rest:List Oper}{i:Nat}{ft:List (List Nat×List Nat)}{d wa:Bool}:
   cJ ro dp J P nt R st (n+1) (.gd (.d (.v undef)) wa ops o rest i ft d::k) x=(mM nt o.dst=true/\cJ ro dp J P nt R st n (.ops ops rest (i+1) (ft++[([],[])]) d::k) (x.app o.dst ⟨.d (.v undef),[],[]⟩)):=propext nM
@[simp] theorem runI_eff_some {ops:Array Oper}{o:Oper}{rest:List Oper}{i:Nat}{ft:List (List Nat×List Nat)}{d:Bool}{sc:Prop}{e:aP}:
   cJ ro dp J P nt R st (n+1) (.uL (some (sc,e)) ops o rest i ft d::k) x=(sc/\mM nt o.dst=true/\cJ ro dp J P nt R st n (.ops ops rest (i+1) (ft++[e.qP]) d::k) (x.app o.dst e)):=propext nM
@[simp] theorem runI_eff_none {ops:Array Oper}{o:Oper}{rest:List Oper}{i:Nat}{ft:List (List Nat×List Nat)}{d:Bool}:
   cJ ro dp J P nt R st (n+1) (.uL none ops o rest i ft d::k) x=CI ro dp J P nt R (.ops ops (o::rest) i ft d::k) x:=propext nM
@[simp] theorem runI_skip :cJ ro dp J P nt R st (n+1) (.code .skip::k) x=cJ ro dp J P nt R st n k x:=propext nM
@[simp] theorem runI_label {l:Nat}:cJ ro dp J P nt R st (n+1) (.code (.label l)::k) x=cJ ro dp J P nt R st n k x:=propext nM
@[simp] theorem runI_seq {a b:Code}:cJ ro dp J P nt R st (n+1) (.code (.seq a b)::k) x=cJ ro dp J P nt R st n (.code a:: .code b::k) x:=propext nM
@[simp] theorem runI_block {id:Nat}{a:Code}:cJ ro dp J P nt R st (n+1) (.code (.block id a)::k) x=cJ ro dp J P nt R st n (.code a:: .bQ id::k) x:=propext nM
@[simp] theorem runI_cond {o:Operand}{a b:Code}:cJ ro dp J P nt R st (n+1) (.code (.cond o a b)::k) x=cJ ro dp J P nt R st n (.br (ev (dB x.tm) o) a b::k) x:=propext nM
@[simp] theorem runI_region {id:Nat}{ops:Array Oper}{d:Bool}:cJ ro dp J P nt R st (n+1) (.code (.region id ops d)::k) x=(if id=st then CI ro dp J P nt R (.code (.region id ops d)::k) x else cJ ro dp J P nt R st n (.ops ops ops.toList 0 [] d::k) x):=propext nM
@[simp] theorem runI_ret :cJ ro dp J P nt R st (n+1) (.code .ret::k) x=R .ret x:=propext nM
@[simp] theorem runI_exit {id:Nat}:cJ ro dp J P nt R st (n+1) (.code (.exit id)::k) x=(match zE id k with
    |some k'=>cJ ro dp J P nt R st n k' x
    |none=>False):=propext nM
@[simp] theorem runI_loop {a:Code}:cJ ro dp J P nt R st (n+1) (.code (.loop a)::k) x=aQ ro dp J P nt R a k x:=propext nM
end
theorem zbR {P:Program}{nt:Nat}{R:Exit->X->Prop}{st n:Nat}{k:List It}{x:X}{ops:Array Oper}{o:Oper}{rest:List Oper}{i:Nat}{ft:List (List Nat×List Nat)}{d:Bool}{t wa:Bool}
  (h1:t=true->cJ ro dp J P nt R st n (.gd (.d (.v (.bool true))) wa ops o rest i ft d::k) x) (h2:t=false->cJ ro dp J P nt R st n (.gd (.d (.v (.bool false))) wa ops o rest i ft d::k) x):
  cJ ro dp J P nt R st n (.gd (.d (.v (.bool t))) wa ops o rest i ft d::k) x:=by
 cases t
 ·exact h2 rfl
 ·exact h1 rfl
theorem zbS {P:Program}{nt:Nat}{R:Exit->X->Prop}{st n:Nat}{t:Bool}{a b:Code}{k:List It}{x:X}(h1:t=true->cJ ro dp J P nt R st n (.br (.d (.v (.bool true))) a b::k) x)
  (h2:t=false->cJ ro dp J P nt R st n (.br (.d (.v (.bool false))) a b::k) x):cJ ro dp J P nt R st n (.br (.d (.v (.bool t))) a b::k) x:=by
 cases t
 ·exact h2 rfl
 ·exact h1 rfl
end
def EL :AV->AV->List (Nat×Nat)
 |.own c,.own b=>[(b,c)]
 |.ptr c _,.ptr b _=>[(b,c)]
 |.sl c _ _ _,.sl b _ _ _=>[(b,c)]
 |.fn _ xs ys,.fn _ us vs=>pairL xs us++pairL ys vs
 |.agg xs,.agg ys=>pairL xs ys
 |.bI xs,.bI ys=>pairL xs ys
 |_,_=>[]
where pairL:List AV->List AV->List (Nat×Nat)
 |x::xs,y::ys=>EL x y++pairL xs ys
 |_,_=>[]
def PZ (xs:List (Nat×AV)):List (Nat×AV)->List (Nat×Nat)
 |[]=>[]
 | (t,v)::r=>EL (dB xs t) v++PZ xs r
def Iu :Option bC->bC->List (Nat×Nat)
 |some (.cells xs _),.cells ys _=>EL.pairL xs ys
 |_,_=>[]
def WT (mm:Nat->Option bC)(g:List (Nat×Nat)):List (Nat×bC)->List (Nat×Nat)
 |[]=>[]
 | (b,k)::r=>Iu (mm (gn g b)) k++WT mm g r
def hi (l:List (Nat×Nat)):List (Nat×Nat):=l.filter fun p=>decide (64<=p.1)
def Lu (x:X)(tm:List (Nat×AV))(m:List (Nat×bC)):List (Nat×Nat):=
 hi (PZ x.tm tm)++hi (WT (dM x.mm) (hi (PZ x.tm tm)) m)
abbrev Sub (x:X)(tm:List (Nat×AV))(m:List (Nat×bC))(nx:Nat)(gv:List Nat):Prop:=TQ x tm m nx (Lu x tm m) gv
section
variable {ro : Option Nat} {dp : Nat} {J : Names -> (Nat -> Prop) -> World -> Prop}
theorem aQ.K1 {P:Program}{nt:Nat}{R:Exit->X->Prop}{c:Code}{k:List It}{x y:X}(hs:∀(E:Ctx) a w,Rel E x.den a w->Rel E y.den a w)(h:aQ ro dp J P nt R c k y):aQ ro dp J P nt R c k x:=
 fun E hP hn hJ a w hr=>h E hP hn hJ a w (hs E a w hr)
theorem aQ.j1 {P:Program}{nt:Nat}{R:Exit->X->Prop}{k:List It}{x:X}{c:Code}(t sz:Nat)(T:TypeId)(ht:dB x.tm t=.d (.v (.slice none 0 0)))(h:aQ ro dp J P nt R c k ⟨(t,.own x.nx)::x.tm,(x.nx,some (.grow sz [] T))::x.mm,x.nx+1⟩):aQ ro dp J P nt R c k x:=
 .K1 (fun _ _ _ hr=>Rel.j1 ht (cM _) hr) h
theorem aQ.inv {P:Program}{nt:Nat}{R:Exit->X->Prop}{k:List It}{x:X}(hm:P.follows .mixedOrders=true){c:Code}(hk:clean k=true){ι:Type}(tm:ι->List (Nat×AV))(m:ι->List (Nat×bC))(nx:Nat)(μ:ι->Nat)(i0:ι)(gv:List Nat)
  (h0:Sub x (tm i0) (m i0) nx gv)
  (step:∀i (B:X->Prop),(∀x j gv,Sub x (tm j) (m j) nx gv->μ j<μ i->B x)->CI ro dp J P nt R (.code c:: .stop B::k) ⟨tm i,(m i).map (fun p=>(p.1,some p.2)),nx⟩):aQ ro dp J P nt R c k x:=
 aQ.of hm hk (fun i=>⟨tm i,(m i).map (fun p=>(p.1,some p.2)),nx⟩) μ (fun i B hB=>step i B (fun x j gv hs hlt=>hB x j (fun _ _ _ hr=>Rel.sub hs hr) hlt)) i0 (fun _ _ _ hr=>Rel.sub h0 hr)
variable {P : Program} {nt : Nat} {R : Exit -> X -> Prop} {k : List It} {x : X}
theorem CI.SP (hm:P.follows .mixedOrders=true){c:Code}{ι:Type}(tm:ι->List (Nat×AV))(m:ι->List (Nat×bC))(nx:Nat)(hk:clean k=true)
  (h1:∀B:X->Prop,(∀x j gv,Sub x (tm j) (m j) nx gv->B x)->CI ro dp J P nt R (.code c:: .stop B::k) x) (h2:∀j,CI ro dp J P nt R k ⟨tm j,(m j).map (fun p=>(p.1,some p.2)),nx⟩):CI ro dp J P nt R (.code c::k) x:=by
 refine CI.cutAt hm (fun y=>∃j gv,Sub y (tm j) (m j) nx gv) hk (h1 _ fun x j gv hs=>⟨j,gv,hs⟩) ?_;rintro y ⟨j,gv,hs⟩;exact .sub _ gv hk hs (h2 j)
end
@[simp] theorem leDn_self (n:Nat)(a:D):zH n a a=True:=by
  apply eq_true;cases n<;>cases a<;>simp[zH]
@[simp] theorem leA_self (a:AV):eJ a a=True:=by
  apply eq_true;have key:∀a:AV,eJ a a:=by
   intro a;induction a using AV.rec (motive_2:=fun l=>eJ.leL l l)with
   |nil=>exact trivial
   |cons x xs ih1 ih2=>exact⟨ih1,ih2⟩
   |d x=>simp[eJ]
   |any=>simp[eJ]
   |ab=>simp[eJ]
   |ptr b off=>simp[eJ]
   |own b=>simp[eJ]
   |iF b sz i off=>simp[eJ]
   |sl b sz i len=>simp[eJ]
   |agg cs ih=>simpa[eJ]using ih
   |bI cs ih=>simpa[eJ]using ih
   |fn f a b _ _=>simp[eJ]
   |gK t x _=>simp[eJ]
  exact key a
theorem zce {g:Nat->Nat}:∀{a:AV},fX (fun b=>decide (b<0)) a=true->a.cF g=a:=by
 intro a;induction a using AV.rec (motive_2:=fun l=>fX.mH (fun b=>decide (b<0)) l=true->l.map (AV.cF g)=l)with
 |nil=>rfl
 |cons x xs ih1 ih2=>rename_i h;simp only[fX.mH,bN]at h;simp[ih1 h.1,ih2 h.2]
 |d x=>intro _;simp[AV.cF]
 |any=>intro _;simp[AV.cF]
 |ab=>intro _;simp[AV.cF]
 |ptr b off=>intro h;simp[fX]at h
 |own b=>intro h;simp[fX]at h
 |iF b sz i off=>intro h;simp[fX]at h
 |sl b sz i len=>intro h;simp[fX]at h
 |agg cs ih=>intro h;simp only[fX]at h;simp only[AV.cF];rw[ih h]
 |bI cs ih=>intro h;simp only[fX]at h;simp only[AV.cF];rw[ih h]
 |fn f a b i1 i2=>intro h;simp only[fX,bN]at h;simp only[AV.cF];rw[i1 h.1,i2 h.2]
 |gK t x ih=>intro h;simp only[fX]at h;simp only[AV.cF];rw[ih h]
theorem Gx {g:Nat->Nat}:∀{l:List AV},fX.mH (fun b=>decide (b<0)) l=true->l.map (AV.cF g)=l
 |[],_=>rfl
 |x::xs,h=>by simp only[fX.mH,bN]at h;simp[zce h.1,Gx h.2]
theorem RE :∀l:List AV,eJ.leL l l
 |[]=>trivial
 |x::xs=>⟨by simp,RE xs⟩
theorem XZ :∀{a b c d:List AV},eJ.leL a b->eJ.leL c d->eJ.leL (a++c) (b++d)
 |[],[],_,_,_,h=>h
 |_::_,_::_,_,_,h,g=>⟨h.1,XZ h.2 g⟩
 |[],_::_,_,_,h,_=>h.elim
 |_::_,[],_,_,h,_=>h.elim
def cB (P:Program)(k:AV)(args:List AV)(res:AV):Prop:=
 ∃f first cap,sJ k=some (f,first,cap)/\Enters P f/\Ct P f (first++args++cap) [] [] res []/\fX.mH (fun b=>decide (b<0)) (first++args++cap)=true/\fX (fD 0) res=true
attribute [simp] EL EL.pairL PZ Iu WT hi Lu PE PF WJ fX fX.mH aW CR
section
variable {ro : Option Nat} {dp : Nat} {J : Names -> (Nat -> Prop) -> World -> Prop}
theorem CI.ziT {P:Program}{nt:Nat}{R:Exit->X->Prop}{ops:Array Oper}{o:Oper}{rest:List Oper}{i:Nat}{ft:List (List Nat×List Nat)}{draw:Bool}{k:List It}{x:X}{c:Call}{fo:Operand}{kf:AV}{args:List AV}{res:AV}
  (h0:cB P kf args res) (ho:o.op=.call c) (hc:c.callee=.value fo) (hdst:mM nt o.dst=true) (hg:o.guard=none\/∃g wa,o.guard=some (g,wa)/\pJ ops g (dB x.tm)=some wa)
  (hf:ev (dB x.tm) fo=kf) (ha:eJ.leL (c.args.toList.map (ev (dB x.tm))) args)
  (h:CI ro dp J P nt R (.ops ops rest (i+1) (ft++[([],[])]) draw::k) ⟨AT o.dst (res.cF (eO [] (x.nx+64*i))) x.tm,x.mm,x.nx⟩):CI ro dp J P nt R (.ops ops (o::rest) i ft draw::k) x:=by
 obtain⟨f,first,cap,h1,h2,h3,h4,h5⟩:=h0;refine CI.Z2 h3 h2 ho hc hdst hg (by rw[hf];exact h1) ?_ h4 h5 h;rw[Gx h4];exact XZ (XZ (RE _) ha) (RE _)
end
open Go.ChangeShapes Go.WideShapes Go.ChangeAt Go.RowKit
def M5 (P:Program)(c:TypeId->Bool):Nat->List Field->Option Nat
 |off,[]=>some off
 |off,f::fs=>if f.offset=off/\c f.type=true then M5 P c (off+P.cellsOf f.type) fs else none
def zS (P:Program):Nat->TypeId->Bool
 |0,_=>false
 |n+1,t=>match P.underlying t with
  |some .bool=>true
  |some (.int _)=>true
  |some .string=>true
  |some (.slice e)=>decide (0<P.cellsOf e)&&zS P n e
  |some (.struct fs)=>M5 P (zS P n) 0 fs.toList==some (P.cellsOf t)
  |some (.array k e)=>decide (k*P.cellsOf e=P.cellsOf t)&&zS P n e
  |_=>false
inductive Sh where
 |bool|int (k:IntKind)|str|sl (e:TypeId)|st (ts:List TypeId)|arr (k:Nat) (e:TypeId)|no
def kF (P:Program)(t:TypeId):Sh:=match P.underlying t with
 |some .bool=>.bool
 |some (.int k)=>.int k
 |some .string=>.str
 |some (.slice e)=>.sl e
 |some (.struct fs)=>.st (fs.toList.map (·.type))
 |some (.array k e)=>.arr k e
 |_=>.no
def z6 (p:TypeId->List D->Prop):List TypeId->List D->Prop
 |[],ds=>ds=[]
 |t::ts,ds=>∃a b,p t a/\z6 p ts b/\ds=a++b
def Is (P:Program):Nat->TypeId->List D->Prop
 |0,_,_=>False
 |n+1,t,ds=>match kF P t with
  |.bool=>∃b,ds=[.v (.bool b)]
  |.int k=>∃x,(Lit.int k x).wf=true/\ds=[.v (.int k x)]
  |.str=>∃s:ByteArray,s.size<=maxLen/\ds=[.v (.string s)]
  |.sl e=>∃es:List (List D),es.length<=maxLen/\(∀c∈es,Is P n e c)/\ds=[.ro false es]
  |.st ts=>z6 (Is P n) ts ds
  |.arr k e=>∃es:List (List D),es.length=k/\(∀c∈es,Is P n e c)/\ds=es.flatten
  |.no=>False
section
variable {P : Program} {n : Nat} {t e : TypeId} {ds : List D}
theorem sF {k:IntKind}(hs:kF P t=.int k)(h:Is P (n+1) t ds):∃x,(Lit.int k x).wf=true/\ds=[.v (.int k x)]:=by unfold Is at h;rw[hs]at h;exact h
theorem EW (hs:kF P t=.str)(h:Is P (n+1) t ds):∃s:ByteArray,s.size<=maxLen/\ds=[.v (.string s)]:=by unfold Is at h;rw[hs]at h;exact h
theorem JB (hs:kF P t=.sl e)(h:Is P (n+1) t ds):∃es:List (List D),es.length<=maxLen/\(∀c∈es,Is P n e c)/\ds=[.ro false es]:=by unfold Is at h;rw[hs]at h;exact h
theorem GK {ts:List TypeId}(hs:kF P t=.st ts)(h:Is P (n+1) t ds):z6 (Is P n) ts ds:=by unfold Is at h;rw[hs]at h;exact h
theorem GM (h:z6 (Is P n) [] ds):ds=[]:=by unfold z6 at h;exact h
theorem kZ {ts:List TypeId}(h:z6 (Is P n) (t::ts) ds):∃a b,Is P n t a/\z6 (Is P n) ts b/\ds=a++b:=by unfold z6 at h;exact h
theorem GL {α:Type}{f:α->List D}{p:α->Prop}{q:List D->Prop}(h:∀c,q c->∃x,p x/\c=f x):∀{es:List (List D)},(∀c∈es,q c)->∃l:List α,(∀x∈l,p x)/\es=l.map f
 |[],_=>⟨[],by simp,rfl⟩
 |c::es,hc=>by
  obtain⟨l,h1,rfl⟩:=GL (es:=es) h (fun c hc'=>hc c (by simp[hc']));obtain⟨x,h2,rfl⟩:=h c (hc c (by simp));exact⟨x::l,by simpa[h2]using h1,rfl⟩
end
theorem XV {α:Type}{p:Nat->α->Prop}:∀(n:Nat),(∀i,i<n->∃x,p i x)->∃l:List α,l.length=n/\∀i x,l[i]? =some x->p i x
 |0,_=>⟨[],rfl,fun i x h=>by simp at h⟩
 |n+1,h=>by
  obtain⟨l,h1,h2⟩:=XV n (fun i hi=>h i (by omega));obtain⟨x,hx⟩:=h n (by omega);refine⟨l++[x],by simp[h1],fun i y hy=>?_⟩;by_cases hi:i<l.length
  ·exact h2 i y (by rwa[jY hi]at hy)
  ·rw[nL (by omega)]at hy;have hlt:=(cC.1 hy).1;have e:i=n:=by simp at hlt;omega
   subst e;simp[h1]at hy;subst hy;exact hx
def o7 (w:World)(ds:List D)(cs:List Value):Prop:=
 ds.length=cs.length/\∀(i:Nat) d v,ds[i]? =some d->cs[i]? =some v->RD (fun n=>n<w.heap.size) w d v/\v.oneCell'=true
theorem o7.one {w:World}{d:D}{v:Value}(h:RD (fun n=>n<w.heap.size) w d v)(h1:v.oneCell'=true):o7 w [d] [v]:=by
 refine⟨rfl,fun i d' v' h2 h3=>?_⟩;cases i with
 |zero=>simp at h2 h3;subst h2;subst h3;exact⟨h,h1⟩
 |succ i=>simp at h2
theorem o7.nil {w:World}:o7 w [] []:=⟨rfl,fun i d v h _=>by simp at h⟩
theorem o7.append {w:World}{a b:List D}{c d:List Value}(h1:o7 w a c)(h2:o7 w b d):o7 w (a++b) (c++d):=by
 refine⟨by simp[h1.1,h2.1],fun i x y hx hy=>?_⟩;by_cases hi:i<a.length
 ·rw[jY hi]at hx;rw[jY (by rw[<-h1.1];exact hi)]at hy;exact h1.2 i x y hx hy
 ·rw[nL (by omega)]at hx;rw[nL (by rw[<-h1.1];omega)]at hy;exact h2.2 _ x y hx (by rw[h1.1];exact hy)
theorem ziJ {w:World}{a:Addr}{v:Value}(h:w.cell? a=some v):a.block<w.heap.size/\a.spot=none:=by
 unfold World.cell? at h;split at h
 ·rename_i c t fr hw;refine⟨(qX.1 hw).1,?_⟩;split at h
  ·cases h
  ·rename_i hs;simpa using hs
 ·cases h
section
variable {H : Type} {enc : TypeId × Value -> H} {P : Program} {w : World} {base : Nat} {held : Bool}
theorem Nv (off k:Nat)(cs:List Value):(cs.drop off).take k++cs.drop (off+k)=cs.drop off:=by
 rw[<-AD];exact List.take_append_drop k (cs.drop off)
theorem Vr :∀(n:Nat) (t:TypeId),zS P n t=true->∀(fuel:Nat) (cs:List Value) (x:DataW H×List MemPlace),DataW.trod enc P w base (fun _=>true) held fuel t cs=some x->∃ds,Is P n t ds/\o7 w ds cs:=by
 intro n;induction n with
 |zero=>intro t h;simp[zS]at h
 |succ n ih=>
  intro t hc fuel cs x h
  have fields:∀(fs:List Field) (off top:Nat),M5 P (zS P n) off fs=some top->cs.length=top->
    (∀f∈fs,∃m y,DataW.trod enc P w base (fun _=>true) held m f.type ((cs.drop f.offset).take (P.cellsOf f.type))=some y)->∃ds,z6 (Is P n) (fs.map (·.type)) ds/\o7 w ds (cs.drop off):=by
   intro fs;induction fs with
   |nil=>
    intro off top h1 h2 _;simp only[M5,lS]at h1;refine⟨[],by simp[z6],?_⟩;rw[Au (by omega)];exact .nil
   |cons f fs ihf=>
    intro off top h1 h2 h3;simp only[M5]at h1;split at h1
    case isFalse=>cases h1
    rename_i h4;obtain⟨b,hb1,hb2⟩:=ihf (off+P.cellsOf f.type) top h1 h2 (fun g hg=>h3 g (by simp[hg]));obtain⟨m,y,hy⟩:=h3 f (by simp);obtain⟨a,ha1,ha2⟩:=ih f.type h4.2 m _ y hy;refine⟨a++b,by rw[iU];unfold z6;exact⟨a,b,ha1,hb1,rfl⟩,?_⟩;rw[h4.1]at ha2;have:=ha2.append hb2
    rwa[Nv]at this
  unfold zS at hc;unfold Is;split at hc
  case h_1 hu=>
   rw[show kF P t=.bool by simp only[kF,hu]];obtain⟨b,rfl,_⟩:=DataW.trod_bool hu h;exact⟨_,⟨b,rfl⟩,o7.one (.v _) rfl⟩
  case h_2 k hu=>
   rw[show kF P t=.int k by simp only[kF,hu]];obtain⟨b,rfl,_,hw⟩:=DataW.trod_int hu h;exact⟨_,⟨b,hw,rfl⟩,o7.one (.v _) rfl⟩
  case h_3 hu=>
   rw[show kF P t=.str by simp only[kF,hu]];obtain⟨b,rfl,_,hw⟩:=DataW.trod_string hu h;exact⟨_,⟨b,hw,rfl⟩,o7.one (.v _) rfl⟩
  case h_4 e hu=>
   rw[show kF P t=.sl e by simp only[kF,hu]];simp only[bN,cP]at hc;rcases Go.Deep.open_slice hu h with⟨rfl,_⟩|⟨a,len,cap,m,k,E,Pl,rfl,hb,hl,hm,hmm,_,hx⟩
   ·exact⟨_,⟨[],by simp[maxLen],fun c hc=>by simp at hc,rfl⟩,o7.one .nil rfl⟩
   ·simp only[eA]at hmm;subst hmm;have hall:∀i,i<len->∃ds,Is P n e ds/\∃cs',w.cells? base (a.add (i*P.cellsOf e)) (P.cellsOf e)=some cs'/\o7 w ds cs':=fun i hi=>by
     obtain⟨cs',h1,h2⟩:=hx i (by omega);obtain⟨ds,h3,h4⟩:=ih e hc.2 _ _ _ h2;exact⟨ds,h3,cs',h1,h4⟩
    obtain⟨es,he1,he2⟩:=XV len hall;refine⟨_,⟨es,by omega,fun c hc=>?_,rfl⟩,o7.one ?_ rfl⟩
    ·obtain⟨i,hi⟩:=DN hc;exact(he2 i c hi).1
    ·rcases rO m with h0|h0
     ·subst h0;have:len=0:=by omega
      subst this;have:es=[]:=jL he1;subst this;exact .emp
     ·obtain⟨cs0,h1,_⟩:=hx 0 h0;obtain⟨_,h2,h3⟩:=World.cells?_some h1;have h4:=h3 0 hc.1;obtain⟨v0,h5⟩:∃v,cs0[0]? =some v:=⟨cs0[0]'(by omega),by simp⟩;rw[h5]at h4;simp only[Nat.zero_mul,Addr.add_zero']at h4;have h6:=ziJ h4;have ha:a=⟨a.block,a.off,none⟩:=by
       have:a.spot=none:=h6.2;cases a;simp_all
      have key:∀i j,i<len->j<P.cellsOf e->w.cell? ⟨a.block,a.off+i*P.cellsOf e+j,none⟩=some ((w.cell? ⟨a.block,a.off+i*P.cellsOf e+j,none⟩).getD undef):=fun i j hi hj=>by
       obtain⟨ds,_,cs',g1,g2⟩:=hall i hi;obtain⟨_,g3,g4⟩:=World.cells?_some g1;have g5:=g4 j hj;rw[ha]at g5;have g6:((⟨a.block,a.off,none⟩:Addr).add (i*P.cellsOf e)).add j=⟨a.block,a.off+i*P.cellsOf e+j,none⟩:=by rw[Addr.add_lit,Addr.add_lit]
       rw[g6]at g5;rw[g5,cI (by omega)];rfl
      have val:∀(i:Nat) e' (j:Nat) c,es[i]? =some e'->e'[j]? =some c->i<len/\j<P.cellsOf e/\RD (fun n=>n<w.heap.size) w c ((w.cell? ⟨a.block,a.off+i*P.cellsOf e+j,none⟩).getD undef)/\((w.cell? ⟨a.block,a.off+i*P.cellsOf e+j,none⟩).getD undef).oneCell'=true:=by
       intro i e' j c g1 g2;obtain⟨_,cs',g3,g4⟩:=he2 i e' g1;have hi:i<len:=by rw[<-he1];exact(cC.1 g1).1
       obtain⟨_,g5,g6⟩:=World.cells?_some g3;have hj:j<P.cellsOf e:=by rw[<-g5,<-g4.1];exact(cC.1 g2).1
       have g7:=g6 j hj;rw[ha]at g7;have g8:((⟨a.block,a.off,none⟩:Addr).add (i*P.cellsOf e)).add j=⟨a.block,a.off+i*P.cellsOf e+j,none⟩:=by rw[Addr.add_lit,Addr.add_lit]
       rw[g8]at g7;rw[g7];obtain⟨v,g9⟩:∃v,cs'[j]? =some v:=⟨cs'[j]'(by omega),by simp⟩;rw[g9];exact⟨hi,hj,g4.2 j c v g2 g9⟩
      rw[ha,<-he1];refine .ro (sz:=P.cellsOf e) (fun i j=>(w.cell? ⟨a.block,a.off+i*P.cellsOf e+j,none⟩).getD undef) h6.1 (fun e' he'=>?_) (by omega) hm (fun h=>by cases h) (fun i e' j c g1 g2=>?_) (fun i e' j c g1 g2=>?_) (fun i e' j c g1 g2=>?_)
      ·obtain⟨i,hi⟩:=DN he';obtain⟨_,cs',g3,g4⟩:=he2 i e' hi;rw[g4.1,(World.cells?_some g3).2.1]
      ·exact key i j (val i e' j c g1 g2).1 (val i e' j c g1 g2).2.1
      ·exact(val i e' j c g1 g2).2.2.1
      ·exact(val i e' j c g1 g2).2.2.2
  case h_5 fs hu=>
   rw[show kF P t=.st (fs.toList.map (·.type)) by simp only[kF,hu]];obtain⟨xs,m,_,_,h1,h2,h3⟩:=DataW.trod_struct hu h;obtain⟨ds,h4,h5⟩:=fields fs.toList 0 _ (by simpa using hc) h1 (fun f hf=>by
    obtain⟨i,hi⟩:=DN hf;have hi':fs[i]? =some f:=by simpa using hi
    have hlt:i<xs.length:=by rw[h2];exact(qX.1 hi').1
    exact⟨m,xs[i],by rw[h3 i f hi'];simp⟩)
   exact⟨ds,h4,by simpa using h5⟩
  case h_6 k e hu=>
   rw[show kF P t=.arr k e by simp only[kF,hu]];simp only[bN,cP]at hc;obtain⟨xs,m,_,_,h1,h2,h3⟩:=DataW.trod_array hu h;have hall:∀i,i<k->∃ds,Is P n e ds/\o7 w ds ((cs.drop (i*P.cellsOf e)).take (P.cellsOf e)):=fun i hi=>
    ih e hc.2 m _ xs[i] (by rw[h3 i hi];simp)
   obtain⟨es,he1,he2⟩:=XV k hall;refine⟨es.flatten,⟨es,he1,fun c hc=>?_,rfl⟩,?_⟩
   ·obtain⟨i,hi⟩:=DN hc;exact(he2 i c hi).1
   ·have:∀(l:List (List D)) (off:Nat),off+l.length=k->(∀i d,l[i]? =some d->o7 w d ((cs.drop ((off+i)*P.cellsOf e)).take (P.cellsOf e)))->o7 w l.flatten (cs.drop (off*P.cellsOf e)):=by
     intro l;induction l with
     |nil=>
      intro off h4 _;rw[Au (by simp at h4;rw[h1,<-hc.1,h4];exact cM _)];exact .nil
     |cons d l ihl=>
      intro off h4 h5;have h6:=ihl (off+1) (by simp at h4;omega) (fun i d' hd=>by
       have:=h5 (i+1) d' (by simpa using hd)
       rwa[show off+(i+1)=off+1+i by omega]at this)
      have h7:=(h5 0 d rfl).append h6;rw[show(off+1)*P.cellsOf e=off*P.cellsOf e+P.cellsOf e by rw[kM];simp]at h7;simp only[yU]at h7;rw[Nv]at h7;simpa using h7
    have:=this es 0 (by omega) (fun i d hd=>by simpa using(he2 i d hd).2);simpa using this
  case h_7=>cases hc
end
def CP :Names:=fun _=>none
def E6 (P:Program)(t:TypeId):Bool:=match P.underlying t with
 |some (.struct _)=>true
 |some (.array _ _)=>true
 |_=>false
def NJ (g:Bool)(ds:List D):AV:=if g then .agg (ds.map .d)else .d (ds.headD (.v undef))
def HB (I:Nat->Prop)(W:World):List AV->List Value->Prop
 |[],[]=>True
 |c::cs,x::xs=>RV CP I W c x/\HB I W cs xs
 |_,_=>False
theorem HB.get {I:Nat->Prop}{W:World}:∀{cs:List AV} {vs:List Value},HB I W cs vs->∀(i:Nat) c x,cs[i]? =some c->vs[i]? =some x->RV CP I W c x
 |[],_,_,_,_,_,h,_=>by simp at h
 |_::_,[],h,_,_,_,_,_=>h.elim
 |_::_,_::_,h,0,c,x,h1,h2=>by
  simp at h1 h2;subst h1;subst h2;exact h.1
 |_::_,_::_,h,i+1,c,x,h1,h2=>h.2.get i c x (by simpa using h1) (by simpa using h2)
theorem HB.length {I:Nat->Prop}{W:World}:∀{cs:List AV} {vs:List Value},HB I W cs vs->vs.length=cs.length
 |[],[],_=>rfl
 |[],_::_,h=>h.elim
 |_::_,[],h=>h.elim
 |_::_,_::_,h=>by simp[h.2.length]
def KB (P:Program)(n:Nat):List TypeId->List AV->Prop
 |[],avs=>avs=[]
 |t::ts,avs=>∃ds bs,Is P n t ds/\KB P n ts bs/\avs=NJ (E6 P t) ds::bs
section
variable {H : Type} {enc : TypeId × Value -> H} {P : Program}
theorem zj5 {W:World}{base n:Nat}{t:TypeId}{v:Value}{ds:List D}(hc:zS P n t=true)(h:o7 W ds v.cells.toList)(hv:Value.okWide P W .any base t v):RV CP (fun n=>n<W.heap.size) W (NJ (E6 P t) ds) v:=by
 cases n with
 |zero=>simp[zS]at hc
 |succ n=>
  have one:∀{v:Value},v.cells=#[v]->o7 W ds v.cells.toList->RV CP (fun n=>n<W.heap.size) W (NJ false ds) v:=fun{v} hv h=>by
   rw[hv]at h;obtain⟨h1,h2⟩:=h
   match ds,h1 with
   |[d],_=>exact .d (h2 0 d v rfl rfl).1
  have many:∀{cs:Array Value},o7 W ds cs.toList->RV CP (fun n=>n<W.heap.size) W (NJ true ds) (.agg cs):=fun{cs} h=>by
   have:RV CP (fun n=>n<W.heap.size) W (.agg (ds.map .d)) (.agg cs.toList.toArray):=.agg (by simp[<-h.1]) fun i c x h1 h2=>by
    simp only[iJ]at h1;obtain⟨d,h3,rfl⟩:=qA.1 h1;exact .d (h.2 i d x h3 h2).1
   simpa[NJ]using this
  unfold zS at hc;unfold E6;split at hc
  case h_1 hu=>
   obtain⟨b,rfl⟩:=okWide_bool hu hv;rw[hu];exact one rfl h
  case h_2 hu=>
   obtain⟨b,rfl⟩:=okWide_int hu hv;rw[hu];exact one rfl h
  case h_3 hu=>
   obtain⟨b,rfl⟩:=okWide_string hu hv;rw[hu];exact one rfl h
  case h_4 hu=>
   obtain⟨a,l,c,rfl⟩:=okWide_slice hu hv;rw[hu];exact one rfl h
  case h_5 hu=>
   simp only[Value.okWide,hu]at hv;obtain⟨cs,rfl,_⟩:=hv;rw[hu];exact many (cs:=cs) h
  case h_6 hu=>
   simp only[Value.okWide,hu]at hv;obtain⟨cs,rfl,_⟩:=hv;rw[hu];exact many (cs:=cs) h
  case h_7=>cases hc
theorem K7 {W:World}{base n:Nat}:∀{ts:List TypeId} {vs:List Value} {ds:List (DataW H)} {ps:List MemPlace},DataW.TrodAll enc P W 0 (fun _=>true) true ts vs ds ps->(∀t∈ts,zS P n t=true)->
  (∀(j:Nat) t v,ts[j]? =some t->vs[j]? =some v->Value.okWide P W .any base t v)->∃avs,KB P n ts avs/\HB (fun n=>n<W.heap.size) W avs vs
 |[],[],_,_,_,_,_=>⟨[],rfl,trivial⟩
 |t::ts,v::vs,d::ds,ps,h,hc,hv=>by
  obtain⟨p,q,⟨fuel,h1⟩,h2,_⟩:=h;obtain⟨bs,h3,h4⟩:=K7 h2 (fun t ht=>hc t (by simp[ht])) (fun j t v h5 h6=>hv (j+1) t v (by simpa using h5) (by simpa using h6));obtain⟨xs,h5,h6⟩:=Vr n t (hc t (by simp)) fuel _ _ h1;exact⟨_,⟨xs,bs,h5,h3,rfl⟩,zj5 (hc t (by simp)) h6 (hv 0 t v rfl rfl),h4⟩
 |[],_::_,_,_,h,_,_=>by cases‹List (DataW H)›<;>exact h.elim
 |_::_,[],_,_,h,_,_=>by cases‹List (DataW H)›<;>exact h.elim
 |_::_,_::_,[],_,h,_,_=>h.elim
theorem Cg (hl:laidOutB P=true){W W':World}(hb:Below W.heap.size W W'):
  ∀{ts:List TypeId} {vs:List Value} {ds:List (DataW H)} {ps:List MemPlace},(∀t∈ts,P.readableRec t=true/\t<P.types.size)->
   DataW.TrodAll enc P W 0 (fun _=>true) true ts vs ds ps->(∀x∈ps,x.block<W.heap.size)->
   DataW.TrodAll enc P W' 0 (fun b=>decide (b<W.heap.size)) true ts vs ds ps
 |[],[],[],_,_,h,_=>h
 |t::ts,v::vs,d::ds,ps,hr,h,hlt=>by
  obtain⟨p,q,h1,h2,rfl⟩:=h;exact⟨p,q,Below.trod hl (hr t (by simp)).1 (hr t (by simp)).2 h1 hb (fun x hx=>hlt x (by simp[hx])),
   Cg hl hb (fun u hu=>hr u (by simp[hu])) h2 (fun x hx=>hlt x (by simp[hx])),rfl⟩
 |[],[],_::_,_,_,h,_=>h.elim
 |[],_::_,_,_,_,h,_=>h.elim
 |_::_,[],_,_,_,h,_=>h.elim
 |_::_,_::_,[],_,_,h,_=>h.elim
theorem Cf {W:World}{b:Nat}{sp:Nat->Bool}{hd:Bool}:
  ∀{ts:List TypeId} {vs:List Value} {ds:List (DataW H)} {ps:List MemPlace},DataW.TrodAll enc P W b sp hd ts vs ds ps->vs.length=ts.length/\ds.length=ts.length
 |[],[],[],_,_=>⟨rfl,rfl⟩
 |t::ts,v::vs,d::ds,ps,h=>by
  obtain⟨p,q,h1,h2,rfl⟩:=h;have:=Cf h2;simp[this.1,this.2]
 |[],[],_::_,_,h=>h.elim
 |[],_::_,_,_,h=>h.elim
 |_::_,[],_,_,h=>h.elim
 |_::_,_::_,[],_,h=>h.elim
theorem PS {f:Func}{s:ChangeSpec}{apart fresh handsOn:Bool}{W W':World}{args:Array Value}{ds gs:List (DataW H)}{before:List MemPlace}{tb:TypeId}
  (hl:laidOutB P=true) (hr:∀t∈f.params.toList,P.readableRec t=true/\t<P.types.size) (hW:DataW.Whole enc P f.params.toList s.vars apart W args.toList ds gs before)
  (hv:s.vars=[]) (hs:∀ds:List (DataW H),ds.length=f.params.size->s.fn H ds={results:=[.lit (.bool true)],args:=ds}) (hrt:f.resultTypes=#[tb]) (htb:P.underlying tb=some .bool)
  (hb:Below W.heap.size W W'):s.post enc P f apart fresh handsOn false W args (.bool true) W':=by
 have hW':=hW;have hlt:=hW.lt;obtain⟨p,q,hA,hV,rfl,hz,hn⟩:=hW;rw[hv]at hV;obtain⟨rfl,rfl⟩:=trodVars_none hV;have hlen:=(Cf hA).2;have e:=hs ds (by simpa using hlen);refine⟨ds,[],p++[],[],p,[],hW',?_,?_,?_,hb.frame _,fun h=>by cases h⟩
 ·rw[KW,e,hrt];exact trodAll_mk1 (shut_bool htb true)
 ·rw[KW,e];exact Cg hl hb hr hA (fun x hx=>hlt x (by simpa using hx))
 ·rw[KW,e,hv];rfl
end
end Go.AI
namespace Go.AI
theorem fK.Gq {σ:Names}{I:Nat->Prop}{w:World}{m:Mem}{nm:Nat}(hI:∀n,I n->n<w.heap.size)(hm:RM σ I w m):fK σ I w m nm σ I w m:=
 ⟨rfl,rfl,⟨rfl,cM _⟩,cM _,fun _ _ h=>h,fun _ h h'=>absurd h h',fun _ h=>h,hI,fun _ h=>.inl h,fun _ _ _=>rfl,hm,fun b k h=>.inl (by rw[h];simp),fun _ h=>.inl h⟩
theorem Ct.pure {P:Program}{f:FuncId}{xs:List Value}{r:Value}(h:∀w,Calls P f xs.toArray w fun e w'=>e=.returned r/\w'=w):Ct P f (xs.map fun x=>.d (.v x)) [] [] (.d (.v r)) []:=by
 intro σ I w vs hI hl ha hm hn;have e:vs=xs:=by
  refine KT fun i=>?_;by_cases hi:i<vs.length
  ·have hi':i<xs.length:=by simpa[hl]using hi
   have:=ha i (.d (.v xs[i])) vs[i] (by simp[hi']) (by simp[hi]);generalize e1:vs[i]=y at this;generalize e2:xs[i]=z at this;have e:y=z:=by
    cases this with
    |d h=>cases h with
     |v=>rfl
   simp[hi,hi',e1,e2,e]
  ·have hi':xs.length<=i:=by simp at hl;omega
   rw[BW (by omega),BW hi']
 subst e;exact(h w).mono fun e w' ⟨h1,h2⟩=>⟨r,σ,I,h1,by rw[h2];exact fK.Gq hI hm,.d (.v r)⟩
abbrev dX (f:FuncId):D:=.v (.func (.func f) #[] #[])
theorem cB.of {P:Program}{f:FuncId}{args:List AV}{res:AV}(h:Ct P f args [] [] res [])(he:Enters P f)(h1:fX.mH (fun b=>decide (b<0)) args=true)(h2:fX (fD 0) res=true):cB P (.d (dX f)) args res:=
 ⟨f,[],[],rfl,he,by simpa using h,by simpa using h1,h2⟩
theorem cB.mY {P:Program}{f:FuncId}{args:List AV}{cap:List D}{res:AV}(h:Ct P f (args++cap.map .d) [] [] res [])(he:Enters P f)(h1:fX.mH (fun b=>decide (b<0)) (args++cap.map .d)=true)(h2:fX (fD 0) res=true):cB P (.d (.fn (.func f) [] cap)) args res:=
 ⟨f,[],cap.map .d,rfl,he,by simpa using h,by simpa using h1,h2⟩
end Go.AI
section
open Go.RowKit
namespace Go.AI
variable {F : Fence} {n m : Nat} {P : Program}
def zfX :Exit->Option (Option Code)
 |.normal=>some none
 |.ret=>some (some .ret)
 |.exit id=>some (some (.exit id))
 |.goto t=>some (some (.goto t))
 |_=>none
def zca (l:Nat)(R:Ending->World->Prop)(e:Exit)(_:Act)(W3:World):Prop:=
 ∃jump,zfX e=some jump/\∃q,W3.heap[l]? =some (.loop q)/\R (.returned (.bool jump.isNone)) (W3.putObj l (.loop {q with state:=if jump.isNone then .ready else .done,pending:=jump}))
theorem zb9 {l:Nat}{r:Loop}{args:Array Value}{W:World}{R:Ending->World->Prop}(hl:W.heap[l]? =some (.loop r))(hr:r.state=.ready)(hs:args.size=r.params.size)(hF:F.fn r.fn)(a₁:Act)
  (W₁:World) (hl₁:W₁.heap[l]? =some (.loop r))
  (hassign:∀K:Act->World->Prop,K a₁ W₁->r.assign.wpIn (F.inRound l) m P (Exit.then K (fun _ _ _=>False)) {tmps:=(r.params.zip args).foldl (fun t (p,v)=>t.setIfInBounds p v) r.tmps,defers:=[]} W)
  (hbody:r.body.wpIn (F.inRound l) m P (zca l R)
    a₁ (W₁.putObj l (.loop {r with state:=.busy}))):YieldAt F m P l args W R:=by
 refine⟨r.fn,_,r.assign,r.body,run_yield hl hs,roundIn_of_wpIn hF (hassign _ ⟨_,run_beginRound hl₁ hr,BO hbody ?_⟩)⟩;rintro e a3 W3 ⟨jump,hj,q,hq,hR⟩;cases e with
 |normal=>cases hj;exact⟨_,_,run_endRound none hq,hR⟩
 |ret=>cases hj;exact⟨_,_,run_endRound (some .ret) hq,hR⟩
 |exit id=>cases hj;exact⟨_,_,run_endRound (some (.exit id)) hq,hR⟩
 |goto t=>cases hj;exact⟨_,_,run_endRound (some (.goto t)) hq,hR⟩
 |panic ch=>cases hj
 |outgrown=>cases hj
theorem Gr {g:Operand}{ps:Array Tmp}{assign body:Code}{Q:Exit->Act->World->Prop}{a:Act}{w:World}(hro:F.round=none)(h1:1<=n){gf:Nat}{lb:Array Value}(hg:a.eval g=.func (.func gf) #[] lb)(hFg:F.fn gf)
  (eg:∀args w,(callFunc gf args).run P w=.ok (.enter gf args) w)
  (h:∀fn,F.fn fn->∀r:Loop,r={state:=.ready,pending:=none,fn,tmps:=a.tmps,params:=ps,assign,body,defers:=w.heap.size}->
    CallsIn F (n-1) P gf (#[.func (.yield (w.heap.size+1)) #[] #[]]++lb) ((w.alloc (.deferred (some []))).alloc (.loop r)) fun e W=>(∃v,e=.returned v)/\∃q:Loop,W.heap[w.heap.size+1]? =some (.loop q)/\q.state≠ .busy/\
     (match q.pending with
       |none=>Q .normal {a with defers:={target:=.collected w.heap.size,args:=#[]}::a.defers} (W.putObj (w.heap.size+1) (.loop {q with state:=.exhausted}))
       |some c=>c.wpIn F n P Q {a with defers:={target:=.collected w.heap.size,args:=#[]}::a.defers} (W.putObj (w.heap.size+1) (.loop {q with state:=.exhausted})))):
  (Code.rangeFunc g ps assign body).wpIn F n P Q a w:=by
 refine wpIn_rangeFunc ?_;intro fn hfn;rw[hro];obtain⟨r,hr⟩:∃r:Loop,r={state:=.ready,pending:=none,fn,tmps:=a.tmps,params:=ps,assign,body,defers:=w.heap.size}:=⟨_,rfl⟩;obtain⟨W1,hW1⟩:∃W1,(w.alloc (.deferred (some []))).alloc (.loop r)=W1:=⟨_,rfl⟩;refine⟨w.heap.size+1,[{target:=.collected w.heap.size,args:=#[]}],W1,{target:=.fn (.func gf) lb,args:=#[.func (.yield (w.heap.size+1)) #[] #[]]},W1,gf,
  #[.func (.yield (w.heap.size+1)) #[] #[]]++lb,W1,?_,?_,?_,?_,fun _=>h1,?_⟩
 ·rw[<-hW1,hr];exact run_enterLoop_outer _ _ _ _ _
 ·simp only[resolve,hg];simp[go_sem]
 ·intro f' hf';simp[Target.leads]at hf';subst hf';exact hFg
 ·simp[invoke,go_sem,eg]
 ·rw[<-hW1];refine(h fn hfn r hr).mono ?_;rintro e W2 ⟨⟨v,rfl⟩,q,hq,hb,hk⟩;exact⟨q.pending,_,run_endLoop hq hb,hk⟩
theorem Ct.grow {P:Program}{f:FuncId}{xs:List Value}{r:Value}(h:∀w,Calls P f xs.toArray w fun e w'=>e=.returned r/\Below w.heap.size w w'/\w.drawn<=w'.drawn):Ct P f (xs.map fun x=>.d (.v x)) [] [] (.d (.v r)) []:=by
 intro σ I w vs hI hl ha hm hn;have e:vs=xs:=by
  refine KT fun i=>?_;by_cases hi:i<vs.length
  ·have hi':i<xs.length:=by simpa[hl]using hi
   have:=ha i (.d (.v xs[i])) vs[i] (by simp[hi']) (by simp[hi]);generalize e1:vs[i]=y at this;generalize e2:xs[i]=z at this;have e:y=z:=by
    cases this with
    |d h=>cases h with
     |v=>rfl
   simp[hi,hi',e1,e2,e]
  ·have hi':xs.length<=i:=by simp at hl;omega
   rw[BW (by omega),BW hi']
 subst e;refine(h w).mono fun e w' ⟨h1,hb,hd⟩=>⟨r,σ,I,h1,?_,.d (.v r)⟩;refine⟨hb.os,hb.tape,⟨hb.output,hd⟩,hb.size,fun _ _ h=>h,fun _ h h'=>absurd h h',fun _ h=>h,fun n hn=>BQ (hI n hn) hb.size,fun _ h=>.inl h,fun n hn _=>hb.block n hn,?_,fun b k h=>by simp[bE]at h,fun n ho=>?_⟩
 ·exact⟨fun b k h=>by simp[bE]at h,fun b b' k k' x x' n h=>by simp[bE]at h⟩
 ·obtain⟨b,k,x,h,_⟩:=ho;simp[bE]at h
end Go.AI
end
namespace Go.AI
def zO (gv:List Nat)(x:X)(t:Nat):AV:=fO (fun b=>!gv.contains b) (dM x.mm) 8 (dB x.tm t)
def GX (e:aP)(gv:List Nat):aP:=⟨e.res,e.rd,e.wr++gv.map fun b=>(b,none)⟩
attribute [simp] GX
@[simp] theorem lenAll_take' {es:List (List D)}{n:Nat}(k:Nat)(h:jV es n=True):jV (es.take k) n=True:=
  eq_true fun e he=>of_eq_true h e (rP he)
section
variable {ro : Option Nat} {dp : Nat} {J : Names -> (Nat -> Prop) -> World -> Prop}
theorem CI.ziS {P:Program}{nt:Nat}{R:Exit->X->Prop}{ops:Array Oper}{o:Oper}{rest:List Oper}{i:Nat}{ft:List (List Nat×List Nat)}{draw:Bool}{k:List It}{x:X}{c:Call}{fo:Operand}{f:FuncId}{first captured:List AV}{args:List AV}{mr m m':List (Nat×bC)}{res:AV}(gv bn:List Nat)
  (hct:Ct P f args mr m res m') (hen:Enters P f) (ho:o.op=.call c) (hc:c.callee=.value fo) (hdst:mM nt o.dst=true) (hg:o.guard=none\/∃g wa,o.guard=some (g,wa)/\pJ ops g (dB x.tm)=some wa)
  (hf:sJ (ev (zO gv x) fo)=some (f,first,captured)) (ha:eJ.leL (first++c.args.toList.map (ev (zO gv x))++captured) (args.map (AV.cF (eO bn (x.nx+64*i))))) (hn:z8 bn args mr m res m')
  (hk:∀p∈mr++m,pX gv (dM x.mm) (eO bn (x.nx+64*i) p.1)=some (p.2.cF (eO bn (x.nx+64*i)))) (hgv:∀b,b∈gv->(dM x.mm b).isSome=true)
  (h:CI ro dp J P nt R (.ops ops rest (i+1) (ft++[(GX (kL bn (x.nx+64*i) mr m res m') gv).qP]) draw::k) (x.app o.dst (GX (kL bn (x.nx+64*i) mr m res m') gv))):CI ro dp J P nt R (.ops ops (o::rest) i ft draw::k) x:=
 .op _ hdst hg (bT.qC (by simp[xW,ho]) (bT.YZ gv hgv (Jn ho hc _ _ _ hf hen hct ha hn hk))) h
end
open Go.Sort Go.Proofs Go.RowKit Go.Shelf
theorem zgG {w w':World}(hs:w.heap.size<=w'.heap.size)(hf:∀n,n<w.heap.size->w'.heap[n]? =w.heap[n]?)(ho:w'.os=w.os)(ht:w'.tape=w.tape)(hout:w'.output=w.output)(hd:w.drawn<=w'.drawn):
  ∃q os,w'=grow (w.drewN q) os:=by
 refine⟨w'.drawn-w.drawn,w'.heap.extract w.heap.size w'.heap.size,?_⟩;have e:w.heap++w'.heap.extract w.heap.size w'.heap.size=w'.heap:=by
  apply Array.ext_getElem?;intro n;by_cases h:n<w.heap.size
  ·rw[Aw h,hf n h]
  ·rw[Array.getElem?_append_right (by omega),Array.getElem?_extract];by_cases h2:n<w'.heap.size
   ·rw[aU (by omega)];congr 1;omega
   ·rw[aH (by omega),OB (by omega)]
 have e2:w.drawn+(w'.drawn-w.drawn)=w'.drawn:=by omega
 cases w;cases w';simp only[grow,World.drewN]at*;subst ho ht hout;rw[e,e2]
theorem zir {α:Type} [Inhabited α]{P:Program}{g:FuncId}{enc:α->List Value}{k:Nat}{cf:α->α->Int}
  (hc:∀a b:α,Ct P g [.agg ((enc a).map fun v=>.d (.v v)),.agg ((enc b).map fun v=>.d (.v v))] [] [] (.d (.v (.int .i64 (cf a b)))) []) (bQ off size:Nat) (w:World):
  CmpLays P g #[] enc k cf bQ off size w:=by
 intro m os dk hs x y;have hv:∀(I:Nat->Prop) (W:World) (z:α),RV CP I W (.agg ((enc z).map fun v=>.d (.v v))) (.agg (enc z).toArray):=fun I W z=>.agg (by simp) fun i c v h1 h2=>by
  simp only[iJ]at h1;obtain⟨u,h3,rfl⟩:=qA.1 h1;rw[h2]at h3;cases h3;exact .d (.v _)
 refine(hc x y CP (fun _=>False) _ [.agg (enc x).toArray,.agg (enc y).toArray] (fun _ h=>h.elim) rfl (fun i c v h1 h2=>?_) ⟨fun b k hb=>by simp[bE]at hb,fun b b' k k' x x' n hb=>by simp[bE]at hb⟩ (fun _ _=>rfl)).mono fun e W' ⟨v,σ',I',he,hp,hr⟩=>?_
 ·match i with
  |0=>simp at h1 h2;subst h1;subst h2;exact hv _ _ x
  |1=>simp at h1 h2;subst h1;subst h2;exact hv _ _ y
  |i+2=>simp at h1
 ·rw[fM hr]at he;refine⟨he,zgG hp.size (fun n hn=>hp.frame n hn (by rintro⟨b,_,_,hb,_⟩;simp[bE]at hb)) hp.os hp.tape hp.output.eq hp.output.drawn⟩
variable {α : Type} [Inhabited α]
theorem Ct.sort {P:Program}{f g:FuncId}{enc:α->List Value}{k:Nat}(hk:0<k)(henc:∀x,(enc x).length=k)(h1:∀x,∀v∈enc x,v.oneCell'=true){cf:α->α->Int}{sortL:List α->List α}(hsl:∀l,(sortL l).length=l.length){T:TypeId}{l:List α}
  (hnone:∀(p:Option Addr) (cap:Nat) (fv:Value) (w:World),Calls P f #[.slice p 0 cap,fv] w fun e w'=>e=.returned (.tuple #[])/\w'=w)
  (hsort:∀(bQ off cap:Nat) (d:Array α) (w:World),CmpLays P g #[] enc k cf bQ off d.size w->HoldsK enc k w bQ off d->bQ<w.heap.size->d.size<4611686018427387904->
    Calls P f #[.slice (some ⟨bQ,off,none⟩) d.size cap,.func (.func g) #[] #[]] w fun e w'=>e=.returned (.tuple #[])/\∃n os,w'=sortWorldK enc k w bQ off n (sortL d.toList).toArray os)
  (hc:∀a b:α,Ct P g [.agg ((enc a).map fun v=>.d (.v v)),.agg ((enc b).map fun v=>.d (.v v))] [] [] (.d (.v (.int .i64 (cf a b)))) []) (hl:l.length<4611686018427387904):
  Ct P f [.own 0,.d (dX g)] [] [(0,.grow k (l.map fun x=>(enc x).map D.v) T)] (.d (.v (.tuple #[]))) [(0,.grow k ((sortL l).map fun x=>(enc x).map D.v) T)]:=by
 intro σ I w vs hI hlen ha hm hn
 match vs,hlen with
 |[y,fv],_=>
 have e1:=fM (ha 1 _ _ rfl rfl);subst e1;have hy:σ 0=some y:=by cases ha 0 _ _ rfl rfl with|own h _=>exact h
 obtain⟨y',hy',hrb,hnn⟩:=hm.bQ 0 _ rfl;rw[hy]at hy';cases hy';have same:l=[]->Calls P f #[y,.func (.func g) #[] #[]] w fun e w'=>∃v σ' I',e=.returned v/\fK σ I w (bE ([]++[(0,.grow k (l.map fun x=>(enc x).map D.v) T)])) 64 σ' I' w' (bE ([]++[(0,.grow k ((sortL l).map fun x=>(enc x).map D.v) T)]))/\RV σ' I' w' (.d (.v (.tuple #[]))) v:=by
  intro hl0;have e0:sortL l=[]:=jL (by rw[hsl,hl0];rfl);have hrb2:RB σ I w (.grow k [] T) y:=by simpa[hl0]using hrb
  have:∃p cap,y=.slice p 0 cap:=by
   cases hrb2 with
   |none=>exact⟨_,_,rfl⟩
   |emp a=>exact⟨_,_,rfl⟩
   |grow=>exact⟨_,_,rfl⟩
  obtain⟨p,cap,rfl⟩:=this;refine(hnone p cap _ w).mono fun e w' ⟨he,hw⟩=>⟨_,σ,I,he,?_,.d (.v _)⟩;subst hw;rw[e0];subst hl0;exact fK.Gq hI hm
 by_cases hl0:l=[]
 ·exact same hl0
 generalize hes:(l.map fun x=>(enc x).map D.v)=es at hrb hm;have hlen':es.length=l.length:=by rw[<-hes];simp
 cases hrb with
 |none=>exact absurd (jL hlen'.symm) hl0
 |emp a=>exact absurd (jL hlen'.symm) hl0
 | @grow sz es T n cap arr hw hlc hcap hmax hsz hr=>
   have hcap0:0<cap:=by
    rcases rO l.length with h|h
    ·exact absurd (jL h) hl0
    ·omega
   have hhb:hb (.slice (some ⟨n,0,none⟩) es.length cap)=some n:=vK hcap0;have hblk:n<w.heap.size:=(hnn n hhb).1;have cell:∀(i j:Nat),i<l.length->j<k->arr[i*k+j]? =some (enc l.toArray[i]!)[j]! :=by
    intro i j hi hj;obtain⟨x,hx⟩:∃x,l[i]? =some x:=⟨_,cI hi⟩;have hv:(enc x)[j]? =some ((enc x)[j]'(by rw[henc];exact hj)):=cI _;obtain⟨u,h2,h3,_⟩:=hr i ((enc x).map D.v) j (.v ((enc x)[j]'(by rw[henc];exact hj))) (by rw[<-hes];simp[hx]) (by simp[hv]);rw[h2];have:u=(enc x)[j]'(by rw[henc];exact hj):=by cases h3;rfl
    rw[this];have e2:l.toArray[i]! =x:=by
     rw[FE l.toArray i (by simpa using hi)];simpa[cC,hi]using hx
    rw[e2,FE (enc x) j (by rw[henc];exact hj)]
   have hH:HoldsK enc k w n 0 l.toArray:=by
    intro t ht;rw[size_flatK]at ht;have ht':t<l.length*k:=by simpa using ht
    have hd:=N5 (vW _ _▸ht');have hm':=FH t hk;rw[get_flatK _ _ _ _ ht];have:=cell (t/k) (t%k) hd hm';rw[vW,Nat.div_add_mod]at this;refine⟨?_,?_⟩
    ·simp only[World.cell?,hw];simpa using this
    ·simp[World.frozen?,hw]
   have hcall:=hsort n 0 cap l.toArray w (zir hc _ _ _ _) hH hblk (by simpa using hl);have hyy:(Value.slice (some ⟨n,0,none⟩) es.length cap)=.slice (some ⟨n,0,none⟩) l.toArray.size cap:=by rw[hlen'];simp
   have hcall':Calls P f #[.slice (some ⟨n,0,none⟩) es.length cap,.func (.func g) #[] #[]] w fun e w'=>e=.returned (.tuple #[])/\∃m os,w'=sortWorldK enc k w n 0 m (sortL l).toArray os:=by
    rw[hyy];simpa using hcall
   refine hcall'.mono fun e w' ⟨he,m,os,hw'⟩=>⟨_,σ,I,he,?_,.d (.v _)⟩;obtain⟨arr',harr⟩:∃a,putCells id 0 (flatK enc k (sortL l).toArray) arr=a:=⟨_,rfl⟩;have hsize:arr'.size=arr.size:=by rw[<-harr];simp[putCells]
   have hheap:∀b,b<w.heap.size->w'.heap[b]? =if b=n then some (.cells arr' T (0,0))else w.heap[b]? :=by
    intro b hb;rw[hw'];simp only[sortWorldK,Go.Sort.grow,putRowK,putRow,mapBlock,Sort.ahead];rw[Aw (by simpa using hb),UI];by_cases hbn:b=n
    ·subst hbn;simp only[eA,hw,oK,onCells,harr]
    ·rw[aH (fun h=>hbn h.symm),aH hbn]
   have hsz':w.heap.size<=w'.heap.size:=by rw[hw'];simp[sortWorldK,Go.Sort.grow,putRowK,putRow,mapBlock,Sort.ahead]
   have keep:∀b,I b->w'.heap[b]? =w.heap[b]? :=fun b hb=>by
    rw[hheap b (hI b hb),aH];rintro rfl;exact(hnn b hhb).2 hb
   have own1:∀b,fU σ (bE ([]++[(0,.grow k es T)])) b->b=n:=by
    rintro b ⟨c,q,z,q1,q2,q3⟩;simp only[DK,bE]at q1;split at q1
    ·rename_i h0;subst h0;rw[hy]at q2;cases q2;rw[hhb]at q3;exact(lT q3).symm
    ·cases q1
   have hown:fU σ (bE ([]++[(0,.grow k es T)])) n:=⟨0,_,_,rfl,hy,hhb⟩;have newcell:∀(i j:Nat),i<l.length->j<k->arr'[i*k+j]? =some (enc (sortL l).toArray[i]!)[j]! :=by
    intro i j hi hj;have lt:i*k+j<l.length*k:=by
     have:=pB k (show i+1<=l.length from hi);rw[kM,sT]at this;omega
    have hb2:i*k+j<arr.size:=by
     have:=cell i j hi hj;exact(qX.1 this).1
    rw[<-harr];simp only[putCells,Array.getElem?_mapIdx,tV hb2,oK,size_flatK,KG,hsl,DI,BP,true_and,aU lt,KE,id];have e1:(i*k+j)/k=i:=(blk_iff k i _ hk).1 ⟨by omega,by omega⟩;have e2:(i*k+j)%k=j:=by rw[Nat.mod_eq_sub_div_mul,e1];omega
    rw[get_flatK _ _ _ _ (by simpa[hsl]using lt),e1,e2]
   refine⟨by rw[hw'];rfl,by rw[hw'];rfl,⟨by rw[hw'];rfl,by rw[hw'];exact Nat.le_add_right _ _⟩,hsz',fun _ _ h=>h,fun _ h h'=>absurd h h',fun _ h=>h,fun b hb=>BQ (hI b hb) hsz',fun _ h=>.inl h,fun b hb ho=>?_,⟨fun b q hq=>?_,fun b b' q q' x x' c q1 q2 q3 q4 q5 q6=>?_⟩,fun b q hq=>?_,fun b ho=>?_⟩
   ·rw[hheap b hb,aH];rintro rfl;exact ho hown
   ·simp only[DK,bE]at hq;split at hq
    ·rename_i h0;subst h0;cases hq;refine⟨_,hy,?_,fun c hc'=>?_⟩
     ·have hll:(List.map (fun x=>List.map D.v (enc x)) (sortL l)).length=es.length:=by simp[hsl,hlen']
      rw[show(Value.slice (some ⟨n,0,none⟩) es.length cap)=.slice (some ⟨n,0,none⟩) (List.map (fun x=>List.map D.v (enc x)) (sortL l)).length cap by rw[hll]];refine .grow (by rw[hheap n hblk,aU rfl]) (by rw[hsize];exact hlc) (by rw[hll];exact hcap) hmax (fun e he=>?_) (fun i e j c h2 h3=>?_)
      ·simp only[eR]at he;obtain⟨x,_,rfl⟩:=he;simp[henc]
      ·simp only[iJ]at h2;obtain⟨x,h4,rfl⟩:=qA.1 h2;simp only[iJ]at h3;obtain⟨u,h5,rfl⟩:=qA.1 h3;have hi:i<l.length:=by rw[<-hsl];exact(cC.1 h4).1
       have hj:j<k:=by rw[<-henc x];exact(cC.1 h5).1
       refine⟨_,newcell i j hi hj,?_,?_⟩
       ·have e2:(sortL l).toArray[i]! =x:=by
         rw[FE (sortL l).toArray i (by simpa[hsl]using hi)];simpa[cC,hsl,hi]using h4
        have e3:(enc x)[j]! =u:=by
         rw[FE (enc x) j (by rw[henc];exact hj)];have:=cI (l:=enc x) (i:=j) (by rw[henc];exact hj);rw[this]at h5;exact lT h5
        rw[e2,e3];exact .v _
       ·have e2:(sortL l).toArray[i]! =x:=by
         rw[FE (sortL l).toArray i (by simpa[hsl]using hi)];simpa[cC,hsl,hi]using h4
        rw[e2,FE (enc x) j (by rw[henc];exact hj)];exact h1 x _ (lU _)
     ·rw[hhb]at hc';cases hc';exact⟨BQ hblk hsz',(hnn n hhb).2⟩
    ·cases hq
   ·simp only[DK,bE]at q1 q2;split at q1
    ·split at q2
     ·omega
     ·cases q2
    ·cases q1
   ·left;simp only[DK,bE]at hq⊢;split at hq
    ·rename_i h0;simp[h0]
    ·cases hq
   ·left;obtain⟨c,q,z,q1,q2,q3⟩:=ho;simp only[DK,bE]at q1;split at q1
    ·rename_i h0;subst h0;exact⟨0,_,z,rfl,q2,q3⟩
    ·cases q1
end Go.AI
