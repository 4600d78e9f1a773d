/-
  A FRAMEWORK OF MY OWN (3)
-/
import Derived.Test.YtelooagbkmpdpaaGreatDoorFb
import Derived.ProofKit
import Derived.Deep.Slices
import Derived.OpenShut
set_option linter.unusedSimpArgs false
set_option linter.unusedVariables false
set_option maxRecDepth 100000
set_option maxHeartbeats 8000000
namespace Go.AI
theorem FM {id:Nat}:∀{k k':List Item},exitTo id k=some k'->k'.length<k.length
 |[],_,h=>by cases h
 |x::k,k',h=>by
  cases x<;>simp only[exitTo]at h<;>first
   | (have:=FM h;simp;omega)
   | (split at h
      ·cases h;simp
      ·have:=FM h;simp;omega)
theorem y4 {P:Program}{m0 m0' m1 m:Machine}(h0:step P m0=.next m1)(h0':step P m0'=.next m1)(hne:m≠m0)(h:Steps P m0 m):Steps P m0' m:=by
 obtain⟨n,hn⟩:=h;cases n with
 |zero=>simp only[runN]at hn;cases hn;exact absurd rfl hne
 |succ n=>simp only[runN,h0]at hn;exact .head h0' ⟨n,hn⟩
theorem LB {b b':Frame}{a a':Act}{k k':List Item}{cs cs':List Frame}{w w':World}(h:lone (b.at a k) cs w=lone (b'.at a' k') cs' w'):k=k':=by
 have h1:=cI Machine.gs h;simp[lone,Frame.at]at h1;exact h1.1.2.2.1
theorem PI {P:Program}{Q:Fin}(hg:∀l a w,¬Q (.goto l) a w)(ho:∀a w,¬Q .outgrown a w){c:Code}{a:Act}{w:World}(h:c.wp P (Exit.then ((Code.loop c).wp P Q) Q) a w):(Code.loop c).wp P Q a w:=by
 intro b k cs;obtain⟨e,a₁,w₁,hq,harr⟩:=h b (.inLoop c::k) cs;cases e with
 |normal=>
  obtain⟨e₂,a₂,w₂,hq₂,harr₂⟩:=hq b k cs;refine⟨e₂,a₂,w₂,hq₂,?_⟩;refine .of_steps (Steps.head step_loop harr) ?_;have s1:=step_loop (P:=P) (b:=b) (a:=a₁) (k:=k) (cs:=cs) (w:=w₁) (c:=c);have s2:=step_inLoop (P:=P) (b:=b) (a:=a₁) (k:=k) (cs:=cs) (w:=w₁) (c:=c);cases e₂ with
  |normal=>exact y4 s1 s2 (λe=>by have:=cI List.length (LB e);simp at this) harr₂
  |exit id=>exact λk' hk=>y4 s1 s2 (λe=>by have:=cI List.length (LB e);have:=FM hk;simp at*;omega) (harr₂ k' hk)
  |goto l=>exact absurd hq₂ (hg l a₂ w₂)
  |ret=>
   obtain⟨todo,hs⟩:=harr₂;exact⟨todo,y4 s1 s2 (λe=>by have h1:=cI Machine.gs e;simp[lone,Frame.at]at h1) hs⟩
  |panic ch=>
   obtain⟨todo,hs⟩:=harr₂;exact⟨todo,y4 s1 s2 (λe=>by have h1:=cI Machine.gs e;simp[lone,Frame.at]at h1) hs⟩
  |outgrown=>exact absurd hq₂ (ho a₂ w₂)
 |exit id=>exact⟨_,a₁,w₁,hq,.of_steps (.one step_loop) (.pass (x:=.inLoop c) rfl (λ_ _=>.inl (by simp)) harr)⟩
 |goto l=>exact⟨_,a₁,w₁,hq,.of_steps (.one step_loop) (.pass (x:=.inLoop c) rfl (λ_ _=>.inl (by simp)) harr)⟩
 |ret=>exact⟨_,a₁,w₁,hq,.of_steps (.one step_loop) (.pass (x:=.inLoop c) rfl (λ_ _=>.inl (by simp)) harr)⟩
 |panic ch=>exact⟨_,a₁,w₁,hq,.of_steps (.one step_loop) (.pass (x:=.inLoop c) rfl (λ_ _=>.inl (by simp)) harr)⟩
 |outgrown=>exact⟨_,a₁,w₁,hq,.of_steps (.one step_loop) (.pass (x:=.inLoop c) rfl (λ_ _=>.inl (by simp)) harr)⟩
def Plain (R:Exit->X->Prop):Prop:=(∀l x,¬R (.goto l) x)/\∀x,¬R .outgrown x
theorem Plain.oO (P:Program)(fn:Func)(m:List (Nat×aN))(res:AV)(m':List (Nat×aN)):Plain (oO P fn m res m'):=
 ⟨(λl x h=>by rcases h.1 with h|h<;>cases h),(λx h=>by rcases h.1 with h|h<;>cases h)⟩
section
variable {ro : Option Nat} {dp : Nat} {J : Names -> (Nat -> Prop) -> World -> Prop}
theorem B7 {E:Ctx}{R:Exit->X->Prop}{e:Exit}(he:(∃l,e=.goto l)\/e=.outgrown)(hp:∀x,¬R e x){a:Act}{w:World}:∀k,¬bY ro dp J E k (lP E R) e a w
 |[]=>λ⟨x,_,h⟩=>hp x h
 |i::k=>by rcases he with⟨l,rfl⟩|rfl<;>cases i<;>(simp only[bY];exact B7 (by simp) hp k)
theorem CI.wp {P:Program}{nt:Nat}{R:Exit->X->Prop}(hm:P.follows .mixedOrders=true){c:Code}{k:List It}{x:X}(h:CI none dp J P nt R (.code c::k) x)(hk:clean k=true)(E:Ctx)(hP:E.P=P)(hn:E.nt=nt)(hJ:∀s σ I a w,jH E s σ I a w->J σ I w)(a:Act)(w:World)(hr:Rel E x.den a w):
  c.wp E.P (bY none dp J E k (lP E R)) a w:=(wpIn_wide (n:=dp)).1 ((pA hm h E hP hn hJ).1 (by simpa[clean,eO]using hk) a w hr)
theorem CI.Ck {P:Program}{nt:Nat}{R:Exit->X->Prop}{c:Code}{k:List It}{x:X}(hk:clean k=true)
  (h:∀E:Ctx,E.P=P->E.nt=nt->(∀s σ I a w,jH E s σ I a w->J σ I w)->∀a w,Rel E x.den a w->c.wp E.P (bY none dp J E k (lP E R)) a w):CI none dp J P nt R (.code c::k) x:=
 .cut (by simpa[clean,eO]using hk) λE hP hn hJ a w hr=>(wpIn_wide (n:=dp)).2 (h E hP hn hJ a w hr)
theorem aJ.P1 {P:Program}{nt:Nat}{R:Exit->X->Prop}(hm:P.follows .mixedOrders=true)(hp:Plain R){c:Code}{k:List It}{x:X}(hk:clean k=true)
  (h:CI none dp J P nt R (.code c:: .code (.loop c)::k) x):aJ none dp J P nt R c k x:=by
 intro E hP hn hJ a w hr;have:=CI.wp hm h (by simpa[clean,eO]using hk) E hP hn hJ a w hr;subst hP;refine(wpIn_wide (n:=dp)).2 (PI (λl a w=>B7 (.inl ⟨l,rfl⟩) (hp.1 l) k) (λa w=>B7 (.inr rfl) hp.2 k) (wp_mono this (λe a w h=>?_)));cases e<;>simp only[Exit.then]at h⊢<;>first|exact h|exact(wpIn_wide (n:=dp)).1 h
end
theorem xN {p:Nat->Prop}(h:∃n,p n):∃n,p n/\∀m,p m->n<=m:=by
 obtain⟨n,hn⟩:=h;induction n using Nat.strongRecOn with
 |_ n ih=>
  grind
section
variable {ro : Option Nat} {dp : Nat} {J : Names -> (Nat -> Prop) -> World -> Prop}
open Classical in
theorem aJ.of {P:Program}{nt:Nat}{R:Exit->X->Prop}(hm:P.follows .mixedOrders=true){c:Code}{k:List It}(hk:clean k=true){ι:Type}(S:ι->X)(μ:ι->Nat)
  (h:∀i (B:X->Prop),(∀x j,(∀(E:Ctx) a w,Rel E x.den a w->Rel E (S j).den a w)->μ j<μ i->B x)->CI ro dp J P nt R (.code c:: .stop B::k) (S i))
  {x:X} (i:ι) (hx:∀(E:Ctx) a w,Rel E x.den a w->Rel E (S i).den a w):aJ ro dp J P nt R c k x:=by
 intro E hP hn hJ a w hr;subst hP
 let p:Act->World->Nat->Prop:=λa w n=>∃i,μ i=n/\Rel E (S i).den a w
 have hp0:p a w (μ i):=⟨i,rfl,hx E a w hr⟩
 let M:Act->World->Nat:=λa w=>if h:∃n,p a w n then(xN h).choose else 0
 refine wpIn_loop (λa w=>∃n,p a w n) M ⟨_,hp0⟩ ?_;intro a w hI;have hM:M a w=(xN hI).choose:=dif_pos hI;obtain⟨⟨i,hi,hri⟩,hmin⟩:=(xN hI).choose_spec
 let B:X->Prop:=λx=>∃j,(∀(E:Ctx) a w,Rel E x.den a w->Rel E (S j).den a w)/\μ j<μ i
 have:=(pA hm (h i B (λx j h1 h2=>⟨j,h1,h2⟩)) E rfl hn hJ).1 (by simpa[clean,eO]using hk) a w hri;simp only[bY]at this;refine oI this (λe a' w' hq=>?_);cases e with
 |normal=>
  simp only[bY,Exit.then]at hq⊢;obtain⟨x,hx,j,hj,hlt⟩:=hq;have hp:p a' w' (μ j):=⟨j,rfl,hj E a' w' hx⟩;refine⟨⟨_,hp⟩,?_⟩;have e1:M a' w'=(xN ⟨_,hp⟩).choose:=dif_pos ⟨_,hp⟩;have:=(xN ⟨_,hp⟩).choose_spec.2 _ hp;omega
 |_=>simpa only[bY,Exit.then]using hq
end
def gn (g:List (Nat×Nat))(b:Nat):Nat:=(fP g b).getD b
def zD (f:AV->AV)(g:Nat->Nat)(n:Nat)(xs:List (Nat×AV)):List (Nat×AV)->Prop
 |[]=>True
 | (t,v)::r=>(cG (f (bH xs t)) (v.aW g)/\cY (λb=>decide (b<n)) v=true)/\zD f g n xs r
def DP (kp:Nat->Bool)(mm:Nat->Option aN):aN->aN
 |.cells cs T=>.cells (cs.map (cX kp mm 8)) T
 |k=>k
def qY :aN->aN->Prop
 |.cells xs T,.cells ys U=>cG.leL xs ys/\T=U
 |.grow sz es T,.grow sz' fs U=>sz=sz'/\T=U/\(es=fs\/u6 (pQ 4) es fs)
 |a,b=>a=b
def zE (gv:List Nat)(mm:Nat->Option aN)(f:aN->aN)(g:Nat->Nat)(n:Nat):List (Nat×aN)->Prop
 |[]=>True
 | (b,k)::r=>((∃k0,mm (g b)=some k0/\qY (f k0) (k.aW g))/\gv.contains (g b)=false/\b<n/\bI (λb=>decide (b<n)) k=true)/\zE gv mm f g n r
structure vN (x:X)(tm:List (Nat×AV))(m:List (Nat×aN))(nx:Nat)(g:List (Nat×Nat))(gv:List Nat):Prop where
 ht:zD (cX (λb=>!gv.contains b) (bG x.mm) 8) (gn g) nx x.tm tm
 hm:zE gv (bG x.mm) (DP (λb=>!gv.contains b) (bG x.mm)) (gn g) nx m
 nd:(m.map λp=>gn g p.1).Nodup
 lo:64<=nx
 hg:∀q∈g,64<=q.1
theorem IK {f:AV->AV}{g:Nat->Nat}{n:Nat}{xs:List (Nat×AV)}:∀{ys:List (Nat×AV)},zD f g n xs ys->∀t,bH ys t=.any\/(cG (f (bH xs t)) ((bH ys t).aW g)/\cY (λb=>decide (b<n)) (bH ys t)=true)
 |[],_,t=>.inl (by simp[bH])
 | (u,v)::r,h,t=>by
   by_cases e:u=t
   ·subst e;exact .inr (by simp only[bH,dY];exact h.1)
   ·have:=IK h.2 t;simp only[bH,aR e];exact this
theorem IL {gv:List Nat}{mm:Nat->Option aN}{f:aN->aN}{g:Nat->Nat}{n:Nat}:∀{ys:List (Nat×aN)},zE gv mm f g n ys->∀b k,(b,k)∈ys->(∃k0,mm (g b)=some k0/\qY (f k0) (k.aW g))/\gv.contains (g b)=false/\b<n/\bI (λb=>decide (b<n)) k=true
 |[],_,b,k,h=>by cases h
 | (u,v)::r,h,b,k,hk=>by
   rcases iF.1 hk with e|hk
   ·cases e;exact h.1
   ·exact IL h.2 b k hk
theorem X6 {σ:Names}{I:Nat->Prop}{w:World}{a b:aN}{v:Value}(h:qY a b)(hv:RB σ I w a v):RB σ I w b v:=by
 cases a with
 |cells cs T=>
  cases b with
  |cells ds U=>
   obtain⟨h1,rfl⟩:=(by simpa[qY]using h:cG.leL cs ds/\T=U);obtain⟨hl,hr⟩:=wZ h1;cases hv with
   |cells hw hll hrr=>
    refine .cells hw (by omega) (λi c x hc hx=>?_);have hlt:i<cs.length:=by grind
    exact AL (hrr i cs[i] x (bL hlt) hx) (hr i _ c (bL hlt) hc)
  |_=>simp[qY]at h
 |grow sz es T=>
  cases b with
  |grow sz' fs U=>
   obtain⟨rfl,rfl,h1⟩:=(by simpa only[qY]using h:sz=sz'/\T=U/\(es=fs\/u6 (pQ 4) es fs));rcases h1 with rfl|h1
   ·exact hv
   ·obtain⟨hll,hlg⟩:=EI h1;cases hv with
    |none=>
     obtain rfl:fs=[]:=gX (by simpa using hll.symm);exact .none
    |emp a=>
     obtain rfl:fs=[]:=gX (by simpa using hll.symm);exact .emp a
    | @grow _ _ _ n cap arr h2 h3 h4 h5 h6 h7=>
      rw[hll];refine .grow h2 h3 (by omega) h5 (λe he=>?_) (λi e j c he hc=>?_)
      ·obtain⟨i,hi⟩:=sO he;have hi':i<es.length:=by grind
       rw[<-(w4 (hlg i es[i] e (bL hi') hi)).1];exact h6 _ (mD _)
      ·have hi:i<es.length:=by rw[hll];exact(cJ.1 he).1
       obtain⟨q1,q2⟩:=w4 (hlg i es[i] e (bL hi) he);have hj:j<es[i].length:=by rw[q1];exact(cJ.1 hc).1
       obtain⟨x,g1,g2,g3⟩:=h7 i es[i] j es[i][j] (bL hi) (bL hj);exact⟨x,g1,LH 4 (q2 j _ c (bL hj) hc) g2,g3⟩
  |_=>simp[qY]at h
 |_=>simp only[qY]at h;subst h;exact hv
theorem UP {σ:Names}{I:Nat->Prop}{w:World}{mm:Mem}{kp:Nat->Bool}(hm:RM σ I w mm){k:aN}{v:Value}(h:RB σ I w k v):RB σ (given σ I mm kp) w (DP kp mm k) v:=by
 cases h with
 |cells hw hl hr=>
  refine .cells hw (by simpa using hl) (λi c x h1 h2=>?_);simp only[fN]at h1;obtain⟨c',hc',rfl⟩:=iU.1 h1;exact wN hm 8 (hr i c' x hc' h2)
 |_=>exact RB.mono (λ_ _=>rfl) (λn h=>.inl h) (λ_ _ h=>h) (λ_ _=>rfl) (by first|exact .none|exact .emp _|exact .grow ‹_› ‹_› ‹_› ‹_› ‹_› ‹_›|exact .map _ _ ‹_› ‹_› ‹_› ‹_› ‹_› ‹_›|exact .iL _ _ ‹_› ‹_› ‹_› ‹_› ‹_› ‹_› ‹_› ‹_› ‹_›|exact .cL ‹_› ‹_›|exact .iter ‹_› ‹_›|exact .oV|exact .n3 _|exact .cQ ‹_› ‹_› ‹_› ‹_› ‹_›)
theorem Rel.sub {E:Ctx}{x:X}{tm:List (Nat×AV)}{m:List (Nat×aN)}{nx:Nat}{g:List (Nat×Nat)}{gv:List Nat}(hs:vN x tm m nx g gv){a:Act}{w:World}(h:Rel E x.den a w):Rel E (X.den ⟨tm,m.map (λp=>(p.1,some p.2)),nx⟩) a w:=by
 obtain⟨σ,I,h⟩:=h;have hmx:RM σ I w (bG x.mm):=h.mm
 let kp:Nat->Bool:=λb=>!gv.contains b
 let I':=given σ I (bG x.mm) kp
 let σ':Names:=λb=>if b<nx then σ (gn g b)else none
 have hs':∀b,decide (b<nx)=true->∀y,σ (gn g b)=some y->σ' b=some y:=λb hb y hy=>by simp only[σ'];rw[bA (by simpa using hb)];exact hy
 have hlk:bG (m.map λp=>(p.1,some p.2))=aP m:=tB _;have hm:=IL hs.hm;refine⟨σ',I',h.size,h.kU,λt=>?_,⟨λb k hb=>?_,λb b' k k' u u' n h1 h2 h3 h4 h5 h6=>?_⟩,λb hb=>?_,λn hn=>?_,λn hn=>.inl (h.i0 n hn),λn hn=>?_,λn hn=>?_,h.os,h.tape,h.output,h.hs,h.frame,λb y hy=>?_,h.low⟩
 ·show RV σ' I' w (bH tm t) _;rcases IK hs.ht t with e|⟨e1,e2⟩
  ·rw[e];exact .any _
  ·exact yB hs' (AL (wN hmx 8 (h.tm t)) e1) rfl e2
 ·have hb':aP m b=some k:=by rw[<-hlk];exact hb
  obtain⟨⟨k0,q1,q2⟩,q3,q4,q5⟩:=hm b k (gR hb');obtain⟨u,p1,p2,p3⟩:=hmx.aS _ _ q1;refine⟨u,hs' b (by simpa using q4) u p1,vP hs' (X6 q2 (UP hmx p2)) q5,λn hn=>⟨(p3 n hn).1,?_⟩⟩;rintro(h'|⟨b0,hk0,c,q,z,e,r1,r2,r3⟩)
  ·simp_all
  ·cases e;have:=hmx.apart _ _ _ _ _ _ n q1 r1 p1 r2 hn r3;subst this;simp only[kp,q3]at hk0;cases hk0
 ·have hb':aP m b=some k:=by rw[<-hlk];exact h1
  have hb'':aP m b'=some k':=by rw[<-hlk];exact h2
  obtain⟨⟨k0,q1,q2⟩,q3,q4,q5⟩:=hm b k (gR hb');obtain⟨⟨k0',q1',q2'⟩,q3',q4',q5'⟩:=hm b' k' (gR hb'');simp only[σ',bA q4]at h3;simp only[σ',bA q4']at h4;have:=hmx.apart _ _ _ _ _ _ n q1 q1' h3 h4 h5 h6;exact cI Prod.fst (DY hs.nd (gR hb') (gR hb'') this)
 ·have hb':nx<=b:=hb;simp only[σ'];rw[aR (by omega)]
 ·rcases hn with h'|⟨b0,hk0,c,q,z,e,r1,r2,r3⟩
  ·exact h.ib n h'
  ·obtain⟨u,p1,_,p3⟩:=hmx.aS _ _ r1;rw[r2]at p1;cases p1;exact(p3 n r3).1
 ·rcases hn with h'|⟨b0,hk0,c,q,z,e,r1,r2,r3⟩
  ·exact h.fB n h'
  ·exact .inr (h.eM n ⟨c,q,z,r1,r2,r3⟩)
 ·obtain⟨b,k,v,r1,r2,r3⟩:=hn;have hb':aP m b=some k:=by rw[<-hlk];exact r1
  obtain⟨⟨k0,q1,q2⟩,q3,q4,q5⟩:=hm b k (gR hb');simp only[σ',bA q4]at r2;exact h.eM n ⟨_,k0,v,q1,r2,r3⟩
 ·have hlt:b<64:=by
   rcases pC b 64 with h'|h'
   ·exact h'
   ·rw[h.low b h']at hy;cases hy
  have hgn:gn g b=b:=by
   have:∀{g:List (Nat×Nat)},(∀q∈g,64<=q.1)->fP g b=none:=by
    intro g;induction g with
    |nil=>intro _;rfl
    |cons q g ih=>
     intro hg;obtain⟨a1,a2⟩:=q;have:=hg (a1,a2) (by simp);simp only[fP];rw[aR (by omega)];exact ih λq hq=>hg q (by simp[hq])
   simp[gn,this hs.hg]
  simp only[σ'];rw[bA (by have:=hs.lo;omega),hgn];exact h.jW b y hy
theorem Rel.gK {E:Ctx}{x:X}{t b sz:Nat}{T:TypeId}(ht:bH x.tm t=.d (.v (.slice none 0 0)))(hb:x.nx<=b){a:Act}{w:World}(h:Rel E x.den a w):
  Rel E (X.den ⟨(t,.own b)::x.tm,(b,some (.grow sz [] T))::x.mm,b+1⟩) a w:=by
 obtain⟨σ,I,h⟩:=h;have hσ:σ b=none:=h.free b hb;have hmx:RM σ I w (bG x.mm):=h.mm;have ext:∀c y,σ c=some y->cN σ b (.slice none 0 0) c=some y:=by
  intro c y hc;unfold cN
  grind
 have old:∀c y,c≠b->cN σ b (.slice none 0 0) c=some y->σ c=some y:=by
  intro c y hc hy;simpa[cN,hc]using hy
 have mm:∀c k,bG ((b,some (.grow sz [] T))::x.mm) c=some k->(c=b/\k=.grow sz [] T)\/(c≠b/\bG x.mm c=some k):=by
  intro c k hk;simp only[bG]at hk
  grind
 refine⟨cN σ b (.slice none 0 0),I,h.size,h.kU,λs=>?_,⟨λc k hc=>?_,λc c' k k' u u' n h1 h2 h3 h4 h5 h6=>?_⟩,λc hc=>?_,h.ib,h.i0,h.fB,λn hn=>?_,h.os,h.tape,h.output,h.hs,h.frame,λc y hy=>ext _ _ (h.jW c y hy),h.low⟩
 ·show RV _ I w (bH ((t,.own b)::x.tm) s) _;simp only[bH];split
  ·rename_i e;subst e;have:=h.tm t;rw[show x.den.tm t=.d (.v (.slice none 0 0))from ht]at this;rw[cH this];exact .own (by simp[cN]) rfl
  ·exact(h.tm s).mono (λ_ _=>rfl) (λ_ h=>h) ext
 ·rcases mm c k hc with⟨rfl,rfl⟩|⟨hcb,hc⟩
  ·exact⟨_,by simp[cN],.none,λn hn=>by cases hn⟩
  ·obtain⟨u,p1,p2,p3⟩:=hmx.aS c k hc;exact⟨u,ext _ _ p1,p2.mono (λ_ _=>rfl) (λ_ h=>h) ext (λ_ _=>rfl),p3⟩
 ·rcases mm c k h1 with⟨rfl,rfl⟩|⟨hcb,hc⟩
  ·simp[cN]at h3;subst h3;cases h5
  ·rcases mm c' k' h2 with⟨rfl,rfl⟩|⟨hcb',hc'⟩
   ·simp[cN]at h4;subst h4;cases h6
   ·exact hmx.apart c c' k k' u u' n hc hc' (old _ _ hcb h3) (old _ _ hcb' h4) h5 h6
 ·have hc':b+1<=c:=hc;have:σ c=none:=h.free c (by show x.nx<=c;omega);simp only[cN];rw[aR (by omega)];exact this
 ·obtain⟨c,k,v,r1,r2,r3⟩:=hn;rcases mm c k r1 with⟨rfl,rfl⟩|⟨hcb,hc⟩
  ·simp[cN]at r2;subst r2;cases r3
  ·exact h.eM n ⟨c,k,v,hc,old _ _ hcb r2,r3⟩
theorem Rel.zU {E:Ctx}{x:X}{c j b sz:Nat}{T U:TypeId}{cs:List AV}(hc:bG x.mm c=some (.cells cs U))(hj:cs[j]? =some (.d (.v (.slice none 0 0))))(hb:x.nx<=b){a:Act}{w:World}(h:Rel E x.den a w):
  Rel E (X.den ⟨x.tm,(b,some (.grow sz [] T))::(c,some (.cells (cs.set j (.own b)) U))::x.mm,b+1⟩) a w:=by
 obtain⟨σ,I,h⟩:=h;have hσ:σ b=none:=h.free b hb;have hmx:RM σ I w (bG x.mm):=h.mm;have ext:∀c y,σ c=some y->cN σ b (.slice none 0 0) c=some y:=by
  intro c y hc;unfold cN
  grind
 have old:∀c y,c≠b->cN σ b (.slice none 0 0) c=some y->σ c=some y:=by
  intro c y hc hy;simpa[cN,hc]using hy
 have mm:∀d k,bG ((b,some (.grow sz [] T))::(c,some (.cells (cs.set j (.own b)) U))::x.mm) d=some k->(d=b/\k=.grow sz [] T)\/(d≠b/\∃k0,bG x.mm d=some k0/\(k=k0\/(d=c/\k=.cells (cs.set j (.own b)) U))):=by
  intro d k hk;simp only[bG]at hk
  grind
 refine⟨cN σ b (.slice none 0 0),I,h.size,h.kU,λs=>(h.tm s).mono (λ_ _=>rfl) (λ_ h=>h) ext,⟨λd k hd=>?_,λd d' k k' u u' n h1 h2 h3 h4 h5 h6=>?_⟩,λd hd=>?_,h.ib,h.i0,h.fB,λn hn=>?_,h.os,h.tape,h.output,h.hs,h.frame,λc y hy=>ext _ _ (h.jW c y hy),h.low⟩
 ·rcases mm d k hd with⟨rfl,rfl⟩|⟨hdb,k0,hd1,hk⟩
  ·exact⟨_,by simp[cN],.none,λn hn=>by cases hn⟩
  ·obtain⟨u,p1,p2,p3⟩:=hmx.aS d k0 hd1;rcases hk with rfl|⟨rfl,rfl⟩
   ·exact⟨u,ext _ _ p1,p2.mono (λ_ _=>rfl) (λ_ h=>h) ext (λ_ _=>rfl),p3⟩
   ·rw[hc]at hd1;cases hd1;refine⟨u,ext _ _ p1,?_,p3⟩;cases p2 with
    |cells hw hl hr=>
     refine .cells hw (by simpa using hl) (λi q y hq hy=>?_);by_cases e:j=i
     ·subst e;rw[List.getElem?_set_self (cJ.1 hj).1]at hq;cases hq;rw[cH (hr j _ y hj hy)];exact .own (by simp[cN]) rfl
     ·rw[List.getElem?_set_ne e]at hq;exact(hr i q y hq hy).mono (λ_ _=>rfl) (λ_ h=>h) ext
 ·rcases mm d k h1 with⟨rfl,rfl⟩|⟨hdb,k0,hd,_⟩
  ·simp[cN]at h3;subst h3;cases h5
  ·rcases mm d' k' h2 with⟨rfl,rfl⟩|⟨hdb',k0',hd',_⟩
   ·simp[cN]at h4;subst h4;cases h6
   ·exact hmx.apart d d' k0 k0' u u' n hd hd' (old _ _ hdb h3) (old _ _ hdb' h4) h5 h6
 ·have hd':b+1<=d:=hd;have:σ d=none:=h.free d (by show x.nx<=d;omega);simp only[cN];rw[aR (by omega)];exact this
 ·obtain⟨d,k,v,r1,r2,r3⟩:=hn;rcases mm d k r1 with⟨rfl,rfl⟩|⟨hdb,k0,hd,_⟩
  ·simp[cN]at r2;subst r2;cases r3
  ·exact h.eM n ⟨d,k0,v,hd,old _ _ hdb r2,r3⟩
section
variable {ro : Option Nat} {dp : Nat} {J : Names -> (Nat -> Prop) -> World -> Prop}
theorem CI.sub {P:Program}{nt:Nat}{R:Exit->X->Prop}{k:List It}{x:X}{tm:List (Nat×AV)}{m:List (Nat×aN)}{nx:Nat}(g:List (Nat×Nat))(gv:List Nat)(hk:clean k=true)(hs:vN x tm m nx g gv)(h:CI ro dp J P nt R k ⟨tm,m.map (λp=>(p.1,some p.2)),nx⟩):CI ro dp J P nt R k x:=
 .sR hk (λE a w hr=>Rel.sub hs hr) h
theorem CI.gK {P:Program}{nt:Nat}{R:Exit->X->Prop}{k:List It}{x:X}(t sz:Nat)(T:TypeId)(hk:clean k=true)(ht:bH x.tm t=.d (.v (.slice none 0 0)))(h:CI ro dp J P nt R k ⟨(t,.own x.nx)::x.tm,(x.nx,some (.grow sz [] T))::x.mm,x.nx+1⟩):CI ro dp J P nt R k x:=
 .sR hk (λ_ _ _ hr=>Rel.gK ht (aY _) hr) h
end
attribute [simp] bH bG x6 nN x7 x5 x4 vM BF yY ev BZ X.app qQ fR mP sC iM oR qX lM yZ cellsOf lay rY rQ kM BW AW yX yT tM BD tI z8 AA u5 TI.agg sH rC BR wrote oO O3 u1 rX kV eO clean Value.oneCell' BU pX D0 D5 AY AX EN AO BK uQ tR xZ tV wJ tG vJ xV chunk zW AE wE AB oU oU.go vA wW nG BT yV AD x8 E7 wQ fK wS B4 BP xR wK zT zS zV K.nk EW oB dJ CK.fits AV.aW aN.aW eS bT aP fP gf gn cG EJ pQ w5 u6 cG.leL rS
@[simp] theorem pickA_true (x y:AV):qU true x y=x:=by unfold qU;split<;>rfl
@[simp] theorem pickA_false (x y:AV):qU false x y=y:=by unfold qU;split<;>rfl
@[simp] theorem pickA_bool (t x y:Bool):qU t (.d (.v (.bool x))) (.d (.v (.bool y)))=.d (.v (.bool (bif t then x else y))):=rfl
@[simp] theorem foot_mk (r:AV)(rd:List Nat)(wr:List (Nat×Option aN)):(aG.mk r rd wr).jC=(rd,wr.map (·.1)):=rfl
theorem wrap_i64 {n:Int}(h1: -9223372036854775808<=n)(h2:n<=9223372036854775807):IntKind.wrap .i64 n=n:=yO n ⟨h1,h2⟩
attribute [simp] wrap_i64
section
variable {ro : Option Nat} {dp : Nat} {J : Names -> (Nat -> Prop) -> World -> Prop}
theorem CI.N7 {P:Program}{nt:Nat}{R:Exit->X->Prop}{ops:Array Oper}{o:Oper}{rest:List Oper}{i:Nat}{ft:List (List Nat×List Nat)}{draw:Bool}{k:List It}{x:X}{c:Call}{fo:Operand}{f:FuncId}{first captured:List AV}{args:List AV}{mr m m':List (Nat×aN)}{res:AV}(bn:List Nat)
  (hct:Ct P f args mr m res m') (hen:Enters P f) (ho:o.op=.call c) (hc:c.callee=.value fo) (hdst:fR nt o.dst=true) (hg:o.guard=none\/∃g wa,o.guard=some (g,wa)/\iM ops g (bH x.tm)=some wa)
  (hf:kV (ev (bH x.tm) fo)=some (f,first,captured)) (ha:cG.leL (first++c.args.toList.map (ev (bH x.tm))++captured) (args.map (AV.aW (bT bn (x.nx+64*i))))) (hn:oH bn args mr m res m')
  (hk:∀p∈mr++m,bG x.mm (bT bn (x.nx+64*i) p.1)=some (p.2.aW (bT bn (x.nx+64*i))))
  (h:CI ro dp J P nt R (.ops ops rest (i+1) (ft++[(eS bn (x.nx+64*i) mr m res m').jC]) draw::k) (x.app o.dst (eS bn (x.nx+64*i) mr m res m'))):CI ro dp J P nt R (.ops ops (o::rest) i ft draw::k) x:=
 .op _ hdst hg ((J3 ho hc _ _ _ hf hen hct ha hn hk).kL (by simp[pM,ho])) h
theorem CI.F0 {P:Program}{nt:Nat}{R:Exit->X->Prop}{ops:Array Oper}{o:Oper}{rest:List Oper}{i:Nat}{ft:List (List Nat×List Nat)}{draw:Bool}{k:List It}{x:X}{c:Call}{fo:Operand}{f:FuncId}{first captured:List AV}{args:List AV}{res:AV}
  (hct:Ct P f args [] [] res []) (hen:Enters P f) (ho:o.op=.call c) (hc:c.callee=.value fo) (hdst:fR nt o.dst=true) (hg:o.guard=none\/∃g wa,o.guard=some (g,wa)/\iM ops g (bH x.tm)=some wa)
  (hf:kV (ev (bH x.tm) fo)=some (f,first,captured)) (ha:cG.leL (first++c.args.toList.map (ev (bH x.tm))++captured) (args.map (AV.aW (bT [] (x.nx+64*i))))) (hnA:cY.gS (λb=>decide (b<0)) args=true) (hnR:cY (kE 0) res=true)
  (h:CI ro dp J P nt R (.ops ops rest (i+1) (ft++[([],[])]) draw::k) ⟨qQ o.dst (res.aW (bT [] (x.nx+64*i))) x.tm,x.mm,x.nx⟩):CI ro dp J P nt R (.ops ops (o::rest) i ft draw::k) x:=
 .N7 [] hct hen ho hc hdst hg hf ha ⟨by simp,by simp,hnA,by simp,by simp,hnR,by simp,by simp⟩ (by simp) h
section
variable {P : Program} {nt : Nat} {R : Exit -> X -> Prop} {st n : Nat} {k : List It} {x : X}
@[simp] theorem runI_nil :aX ro dp J P nt R st (n+1) [] x=R .normal x:=propext gP
@[simp] theorem runI_stop {B:X->Prop}:aX ro dp J P nt R st (n+1) (.stop B::k) x=B x:=propext gP
@[simp] theorem runI_blk {id:Nat}:aX ro dp J P nt R st (n+1) (.aS id::k) x=aX ro dp J P nt R st n k x:=propext gP
@[simp] theorem runI_br_true {a b:Code}:aX ro dp J P nt R st (n+1) (.br (.d (.v (.bool true))) a b::k) x=aX ro dp J P nt R st n (.code a::k) x:=propext gP
@[simp] theorem runI_br_ab {a b:Code}:aX ro dp J P nt R st (n+1) (.br .ab a b::k) x=(aX ro dp J P nt R st n (.code a::k) x/\aX ro dp J P nt R st n (.code b::k) x):=propext gP
@[simp] theorem runI_br_false {a b:Code}:aX ro dp J P nt R st (n+1) (.br (.d (.v (.bool false))) a b::k) x=aX ro dp J P nt R st n (.code b::k) x:=propext gP
@[simp] theorem runI_ops_nil {ops:Array Oper}{i:Nat}{ft:List (List Nat×List Nat)}:aX ro dp J P nt R st (n+1) (.ops ops [] i ft false::k) x=aX ro dp J P nt R st n k ⟨x.tm,x.mm,x.nx+64*i⟩:=propext gP
@[simp] theorem runI_ops_nil_draw {ops:Array Oper}{i:Nat}{ft:List (List Nat×List Nat)}:aX ro dp J P nt R st (n+1) (.ops ops [] i ft true::k) x=(gH ops ft/\aX ro dp J P nt R st n k ⟨x.tm,x.mm,x.nx+64*i⟩):=propext gP
@[simp] theorem runI_ops_cons {ops:Array Oper}{dst:Option Tmp}{op:Op}{ty:TypeId}{pos:String}{bY:Array Edge}{rest:List Oper}{i:Nat}{ft:List (List Nat×List Nat)}{d:Bool}:
   aX ro dp J P nt R st (n+1) (.ops ops (⟨dst,op,ty,pos,bY,none⟩::rest) i ft d::k) x=aX ro dp J P nt R st n (.l8 (nN P ⟨dst,op,ty,pos,bY,none⟩ (bH x.tm) (bG x.mm) (x.nx+64*i)) ops ⟨dst,op,ty,pos,bY,none⟩ rest i ft d::k) x:=propext gP
@[simp] theorem runI_ops_guard {ops:Array Oper}{dst:Option Tmp}{op:Op}{ty:TypeId}{pos:String}{bY:Array Edge}{g:Nat}{wa:Bool}{rest:List Oper}{i:Nat}{ft:List (List Nat×List Nat)}{d:Bool}:
   aX ro dp J P nt R st (n+1) (.ops ops (⟨dst,op,ty,pos,bY,some (g,wa)⟩::rest) i ft d::k) x=aX ro dp J P nt R st n (.gd (sC ops g (bH x.tm)) wa ops ⟨dst,op,ty,pos,bY,some (g,wa)⟩ rest i ft d::k) x:=propext gP
@[simp] theorem runI_gd_tt {ops:Array Oper}{o:Oper}{rest:List Oper}{i:Nat}{ft:List (List Nat×List Nat)}{d:Bool}:
   aX ro dp J P nt R st (n+1) (.gd (.d (.v (.bool true))) true ops o rest i ft d::k) x=aX ro dp J P nt R st n (.l8 (nN P o (bH x.tm) (bG x.mm) (x.nx+64*i)) ops o rest i ft d::k) x:=propext gP
@[simp] theorem runI_gd_ff {ops:Array Oper}{o:Oper}{rest:List Oper}{i:Nat}{ft:List (List Nat×List Nat)}{d:Bool}:
   aX ro dp J P nt R st (n+1) (.gd (.d (.v (.bool false))) false ops o rest i ft d::k) x=aX ro dp J P nt R st n (.l8 (nN P o (bH x.tm) (bG x.mm) (x.nx+64*i)) ops o rest i ft d::k) x:=propext gP
@[simp] theorem runI_gd_tf {ops:Array Oper}{o:Oper}{rest:List Oper}{i:Nat}{ft:List (List Nat×List Nat)}{d:Bool}:
   aX ro dp J P nt R st (n+1) (.gd (.d (.v (.bool true))) false ops o rest i ft d::k) x=(fR nt o.dst=true/\aX ro dp J P nt R st n (.ops ops rest (i+1) (ft++[([],[])]) d::k) (x.app o.dst ⟨.d (.v undef),[],[]⟩)):=propext gP
@[simp] theorem runI_gd_ft {ops:Array Oper}{o:Oper}{rest:List Oper}{i:Nat}{ft:List (List Nat×List Nat)}{d:Bool}:
   aX ro dp J P nt R st (n+1) (.gd (.d (.v (.bool false))) true ops o rest i ft d::k) x=(fR nt o.dst=true/\aX ro dp J P nt R st n (.ops ops rest (i+1) (ft++[([],[])]) d::k) (x.app o.dst ⟨.d (.v undef),[],[]⟩)):=propext gP
@[simp] theorem runI_gd_un {ops:Array Oper}{o:Oper}{rest:List Oper}{i:Nat}{ft:List (List Nat×List Nat)}{d wa:Bool}:
   aX ro dp J P nt R st (n+1) (.gd (.d (.v undef)) wa ops o rest i ft d::k) x=(fR nt o.dst=true/\aX ro dp J P nt R st n (.ops ops rest (i+1) (ft++[([],[])]) d::k) (x.app o.dst ⟨.d (.v undef),[],[]⟩)):=propext gP
@[simp] theorem runI_eff_some {ops:Array Oper}{o:Oper}{rest:List Oper}{i:Nat}{ft:List (List Nat×List Nat)}{d:Bool}{sc:Prop}{e:aG}:
   aX ro dp J P nt R st (n+1) (.l8 (some (sc,e)) ops o rest i ft d::k) x=(sc/\fR nt o.dst=true/\aX ro dp J P nt R st n (.ops ops rest (i+1) (ft++[e.jC]) d::k) (x.app o.dst e)):=propext gP
@[simp] theorem runI_eff_none {ops:Array Oper}{o:Oper}{rest:List Oper}{i:Nat}{ft:List (List Nat×List Nat)}{d:Bool}:
   aX ro dp J P nt R st (n+1) (.l8 none ops o rest i ft d::k) x=CI ro dp J P nt R (.ops ops (o::rest) i ft d::k) x:=propext gP
@[simp] theorem runI_skip :aX ro dp J P nt R st (n+1) (.code .skip::k) x=aX ro dp J P nt R st n k x:=propext gP
@[simp] theorem runI_label {l:Nat}:aX ro dp J P nt R st (n+1) (.code (.label l)::k) x=aX ro dp J P nt R st n k x:=propext gP
@[simp] theorem runI_seq {a b:Code}:aX ro dp J P nt R st (n+1) (.code (.seq a b)::k) x=aX ro dp J P nt R st n (.code a:: .code b::k) x:=propext gP
@[simp] theorem runI_block {id:Nat}{a:Code}:aX ro dp J P nt R st (n+1) (.code (.block id a)::k) x=aX ro dp J P nt R st n (.code a:: .aS id::k) x:=propext gP
@[simp] theorem runI_cond {o:Operand}{a b:Code}:aX ro dp J P nt R st (n+1) (.code (.cond o a b)::k) x=aX ro dp J P nt R st n (.br (ev (bH x.tm) o) a b::k) x:=propext gP
@[simp] theorem runI_region {id:Nat}{ops:Array Oper}{d:Bool}:aX ro dp J P nt R st (n+1) (.code (.region id ops d)::k) x=(if id=st then CI ro dp J P nt R (.code (.region id ops d)::k) x else aX ro dp J P nt R st n (.ops ops ops.toList 0 [] d::k) x):=propext gP
@[simp] theorem runI_ret :aX ro dp J P nt R st (n+1) (.code .ret::k) x=R .ret x:=propext gP
@[simp] theorem runI_exit {id:Nat}:aX ro dp J P nt R st (n+1) (.code (.exit id)::k) x=(match oR id k with
    |some k'=>aX ro dp J P nt R st n k' x
    |none=>False):=propext gP
@[simp] theorem runI_loop {a:Code}:aX ro dp J P nt R st (n+1) (.code (.loop a)::k) x=aJ ro dp J P nt R a k x:=propext gP
end
theorem S9 {P:Program}{nt:Nat}{R:Exit->X->Prop}{st n:Nat}{k:List It}{x:X}{ops:Array Oper}{o:Oper}{rest:List Oper}{i:Nat}{ft:List (List Nat×List Nat)}{d:Bool}{t wa:Bool}
  (h1:t=true->aX ro dp J P nt R st n (.gd (.d (.v (.bool true))) wa ops o rest i ft d::k) x) (h2:t=false->aX ro dp J P nt R st n (.gd (.d (.v (.bool false))) wa ops o rest i ft d::k) x):
  aX ro dp J P nt R st n (.gd (.d (.v (.bool t))) wa ops o rest i ft d::k) x:=by
 cases t
 ·exact h2 rfl
 ·exact h1 rfl
theorem TA {P:Program}{nt:Nat}{R:Exit->X->Prop}{st n:Nat}{t:Bool}{a b:Code}{k:List It}{x:X}(h1:t=true->aX ro dp J P nt R st n (.br (.d (.v (.bool true))) a b::k) x)
  (h2:t=false->aX ro dp J P nt R st n (.br (.d (.v (.bool false))) a b::k) x):aX ro dp J P nt R st n (.br (.d (.v (.bool t))) a b::k) x:=by
 cases t
 ·exact h2 rfl
 ·exact h1 rfl
end
def wP :AV->AV->List (Nat×Nat)
 |.own c,.own b=>[(b,c)]
 |.ptr c _,.ptr b _=>[(b,c)]
 |.sl c _ _ _,.sl b _ _ _=>[(b,c)]
 |.fn _ xs ys,.fn _ us vs=>pairL xs us++pairL ys vs
 |.agg xs,.agg ys=>pairL xs ys
 |.bC xs,.bC ys=>pairL xs ys
 |_,_=>[]
where pairL:List AV->List AV->List (Nat×Nat)
 |x::xs,y::ys=>wP x y++pairL xs ys
 |_,_=>[]
def zK (xs:List (Nat×AV)):List (Nat×AV)->List (Nat×Nat)
 |[]=>[]
 | (t,v)::r=>wP (bH xs t) v++zK xs r
def JN :Option aN->aN->List (Nat×Nat)
 |some (.cells xs _),.cells ys _=>wP.pairL xs ys
 |_,_=>[]
def DR (mm:Nat->Option aN)(g:List (Nat×Nat)):List (Nat×aN)->List (Nat×Nat)
 |[]=>[]
 | (b,k)::r=>JN (mm (gn g b)) k++DR mm g r
def hi (l:List (Nat×Nat)):List (Nat×Nat):=l.filter λp=>decide (64<=p.1)
def KP (x:X)(tm:List (Nat×AV))(m:List (Nat×aN)):List (Nat×Nat):=
 hi (zK x.tm tm)++hi (DR (bG x.mm) (hi (zK x.tm tm)) m)
abbrev Sub (x:X)(tm:List (Nat×AV))(m:List (Nat×aN))(nx:Nat)(gv:List Nat):Prop:=vN x tm m nx (KP x tm m) gv
section
variable {ro : Option Nat} {dp : Nat} {J : Names -> (Nat -> Prop) -> World -> Prop}
theorem aJ.sR {P:Program}{nt:Nat}{R:Exit->X->Prop}{c:Code}{k:List It}{x y:X}(hs:∀(E:Ctx) a w,Rel E x.den a w->Rel E y.den a w)(h:aJ ro dp J P nt R c k y):aJ ro dp J P nt R c k x:=
 λE hP hn hJ a w hr=>h E hP hn hJ a w (hs E a w hr)
theorem aJ.gK {P:Program}{nt:Nat}{R:Exit->X->Prop}{k:List It}{x:X}{c:Code}(t sz:Nat)(T:TypeId)(ht:bH x.tm t=.d (.v (.slice none 0 0)))(h:aJ ro dp J P nt R c k ⟨(t,.own x.nx)::x.tm,(x.nx,some (.grow sz [] T))::x.mm,x.nx+1⟩):aJ ro dp J P nt R c k x:=
 .sR (λ_ _ _ hr=>Rel.gK ht (aY _) hr) h
theorem aJ.zU {P:Program}{nt:Nat}{R:Exit->X->Prop}{k:List It}{x:X}{c:Code}(b j sz:Nat)(T U:TypeId)(cs:List AV)(hc:bG x.mm b=some (.cells cs U))(hj:cs[j]? =some (.d (.v (.slice none 0 0))))(h:aJ ro dp J P nt R c k ⟨x.tm,(x.nx,some (.grow sz [] T))::(b,some (.cells (cs.set j (.own x.nx)) U))::x.mm,x.nx+1⟩):aJ ro dp J P nt R c k x:=
 .sR (λ_ _ _ hr=>Rel.zU hc hj (aY _) hr) h
theorem aJ.inv {P:Program}{nt:Nat}{R:Exit->X->Prop}{k:List It}{x:X}(hm:P.follows .mixedOrders=true){c:Code}(hk:clean k=true){ι:Type}(tm:ι->List (Nat×AV))(m:ι->List (Nat×aN))(nx:Nat)(μ:ι->Nat)(i0:ι)(gv:List Nat)
  (h0:Sub x (tm i0) (m i0) nx gv)
  (step:∀i (B:X->Prop),(∀x j gv,Sub x (tm j) (m j) nx gv->μ j<μ i->B x)->CI ro dp J P nt R (.code c:: .stop B::k) ⟨tm i,(m i).map (λp=>(p.1,some p.2)),nx⟩):aJ ro dp J P nt R c k x:=
 aJ.of hm hk (λi=>⟨tm i,(m i).map (λp=>(p.1,some p.2)),nx⟩) μ (λi B hB=>step i B (λx j gv hs hlt=>hB x j (λ_ _ _ hr=>Rel.sub hs hr) hlt)) i0 (λ_ _ _ hr=>Rel.sub h0 hr)
variable {P : Program} {nt : Nat} {R : Exit -> X -> Prop} {k : List It} {x : X}
end
@[simp] theorem leDn_self (n:Nat)(a:D):pQ n a a=True:=by
  cases n<;>cases a<;>simp
@[simp] theorem leA_self (a:AV):cG a a=True:=by
  apply eq_true;have key:∀a:AV,cG a a:=by
   intro a;induction a using AV.rec (motive_2:=λl=>cG.leL l l)with
   |nil=>exact trivial
   |cons x xs ih1 ih2=>exact⟨ih1,ih2⟩
   |d x=>simp
   |any=>simp
   |ab=>simp
   |ptr b off=>simp
   |own b=>simp
   |dM b sz i off=>simp
   |sl b sz i len=>simp
   |agg cs ih=>simpa using ih
   |bC cs ih=>simpa using ih
   |fn f a b _ _=>simp
   |dC t x _=>simp
  exact key a
theorem TP {g:Nat->Nat}:∀{a:AV},cY (λb=>decide (b<0)) a=true->a.aW g=a:=by
 intro a;induction a using AV.rec (motive_2:=λl=>cY.gS (λb=>decide (b<0)) l=true->l.map (AV.aW g)=l)with
 |nil=>rfl
 |cons x xs ih1 ih2=>rename_i h;simp only[cY.gS,bN]at h;simp[ih1 h.1,ih2 h.2]
 |d x=>intro _;simp
 |any=>intro _;simp
 |ab=>intro _;simp
 |ptr b off=>intro h;simp[cY]at h
 |own b=>intro h;simp[cY]at h
 |dM b sz i off=>intro h;simp[cY]at h
 |sl b sz i len=>intro h;simp[cY]at h
 |agg cs ih=>intro h;simp at h;simp;rw[ih h]
 |bC cs ih=>intro h;simp at h;simp;rw[ih h]
 |fn f a b i1 i2=>intro h;simp only[cY,bN]at h;simp only[AV.aW];rw[i1 h.1,i2 h.2]
 |dC t x ih=>intro h;simp at h;simp;rw[ih h]
theorem IM {g:Nat->Nat}:∀{l:List AV},cY.gS (λb=>decide (b<0)) l=true->l.map (AV.aW g)=l
 |[],_=>rfl
 |x::xs,h=>by simp only[cY.gS,bN]at h;simp[TP h.1,IM h.2]
theorem EG :∀l:List AV,cG.leL l l
 |[]=>trivial
 |x::xs=>⟨by simp,EG xs⟩
theorem EH :∀{a b c d:List AV},cG.leL a b->cG.leL c d->cG.leL (a++c) (b++d)
 |[],[],_,_,_,h=>h
 |_::_,_::_,_,_,h,g=>⟨h.1,EH h.2 g⟩
 |[],_::_,_,_,h,_=>h.elim
 |_::_,[],_,_,h,_=>h.elim
def bP (P:Program)(k:AV)(args:List AV)(res:AV):Prop:=
 ∃f first cap,kV k=some (f,first,cap)/\Enters P f/\Ct P f (first++args++cap) [] [] res []/\cY.gS (λb=>decide (b<0)) (first++args++cap)=true/\cY (kE 0) res=true
attribute [simp] wP wP.pairL zK JN DR hi KP zD zE DP cY cY.gS bI qY
section
variable {ro : Option Nat} {dp : Nat} {J : Names -> (Nat -> Prop) -> World -> Prop}
theorem CI.Dr {P:Program}{nt:Nat}{R:Exit->X->Prop}{ops:Array Oper}{o:Oper}{rest:List Oper}{i:Nat}{ft:List (List Nat×List Nat)}{draw:Bool}{k:List It}{x:X}{c:Call}{fo:Operand}{kf:AV}{args:List AV}{res:AV}
  (h0:bP P kf args res) (ho:o.op=.call c) (hc:c.callee=.value fo) (hdst:fR nt o.dst=true) (hg:o.guard=none\/∃g wa,o.guard=some (g,wa)/\iM ops g (bH x.tm)=some wa)
  (hf:ev (bH x.tm) fo=kf) (ha:cG.leL (c.args.toList.map (ev (bH x.tm))) args)
  (h:CI ro dp J P nt R (.ops ops rest (i+1) (ft++[([],[])]) draw::k) ⟨qQ o.dst (res.aW (bT [] (x.nx+64*i))) x.tm,x.mm,x.nx⟩):CI ro dp J P nt R (.ops ops (o::rest) i ft draw::k) x:=by
 obtain⟨f,first,cap,h1,h2,h3,h4,h5⟩:=h0;refine CI.F0 h3 h2 ho hc hdst hg (by rw[hf];exact h1) ?_ h4 h5 h;rw[IM h4];exact EH (EH (EG _) ha) (EG _)
end
open Go.ChangeShapes Go.WideShapes Go.ChangeAt Go.RowKit
def xQ (P:Program)(c:TypeId->Bool):Nat->List Field->Option Nat
 |off,[]=>some off
 |off,f::fs=>if f.offset=off/\c f.type=true then xQ P c (off+P.cellsOf f.type) fs else none
def o7 (P:Program):Nat->TypeId->Bool
 |0,_=>false
 |n+1,t=>match P.underlying t with
  |some .bool=>true
  |some (.int _)=>true
  |some .string=>true
  |some (.slice e)=>decide (0<P.cellsOf e)&&o7 P n e
  |some (.struct fs)=>xQ P (o7 P n) 0 fs.toList==some (P.cellsOf t)
  |some (.array k e)=>decide (k*P.cellsOf e=P.cellsOf t)&&o7 P n e
  |_=>false
inductive Sh where
 |bool|int (k:IntKind)|str|sl (e:TypeId)|st (ts:List TypeId)|arr (k:Nat) (e:TypeId)|no
def dL (P:Program)(t:TypeId):Sh:=match P.underlying t with
 |some .bool=>.bool
 |some (.int k)=>.int k
 |some .string=>.str
 |some (.slice e)=>.sl e
 |some (.struct fs)=>.st (fs.toList.map (·.type))
 |some (.array k e)=>.arr k e
 |_=>.no
def o9 (p:TypeId->List D->Prop):List TypeId->List D->Prop
 |[],ds=>ds=[]
 |t::ts,ds=>∃a b,p t a/\o9 p ts b/\ds=a++b
def Is (P:Program):Nat->TypeId->List D->Prop
 |0,_,_=>False
 |n+1,t,ds=>match dL P t with
  |.bool=>∃b,ds=[.v (.bool b)]
  |.int k=>∃x,(Lit.int k x).wf=true/\ds=[.v (.int k x)]
  |.str=>∃s:ByteArray,s.size<=maxLen/\ds=[.v (.string s)]
  |.sl e=>∃es:List (List D),es.length<=maxLen/\(∀c∈es,Is P n e c)/\ds=[.ro false es]
  |.st ts=>o9 (Is P n) ts ds
  |.arr k e=>∃es:List (List D),es.length=k/\(∀c∈es,Is P n e c)/\ds=es.flatten
  |.no=>False
section
variable {P : Program} {n : Nat} {t e : TypeId} {ds : List D}
theorem vB (hs:dL P t=.bool)(h:Is P (n+1) t ds):∃b,ds=[.v (.bool b)]:=by unfold Is at h;rw[hs]at h;exact h
theorem iA {k:IntKind}(hs:dL P t=.int k)(h:Is P (n+1) t ds):∃x,(Lit.int k x).wf=true/\ds=[.v (.int k x)]:=by unfold Is at h;rw[hs]at h;exact h
theorem u9 (hs:dL P t=.str)(h:Is P (n+1) t ds):∃s:ByteArray,s.size<=maxLen/\ds=[.v (.string s)]:=by unfold Is at h;rw[hs]at h;exact h
theorem tE (hs:dL P t=.sl e)(h:Is P (n+1) t ds):∃es:List (List D),es.length<=maxLen/\(∀c∈es,Is P n e c)/\ds=[.ro false es]:=by unfold Is at h;rw[hs]at h;exact h
theorem pT {ts:List TypeId}(hs:dL P t=.st ts)(h:Is P (n+1) t ds):o9 (Is P n) ts ds:=by unfold Is at h;rw[hs]at h;exact h
theorem LW {k:Nat}(hs:dL P t=.arr k e)(h:Is P (n+1) t ds):∃es:List (List D),es.length=k/\(∀c∈es,Is P n e c)/\ds=es.flatten:=by unfold Is at h;rw[hs]at h;exact h
theorem pU (h:o9 (Is P n) [] ds):ds=[]:=by unfold o9 at h;exact h
theorem dN {ts:List TypeId}(h:o9 (Is P n) (t::ts) ds):∃a b,Is P n t a/\o9 (Is P n) ts b/\ds=a++b:=by unfold o9 at h;exact h
theorem r6 {α:Type}{f:α->List D}{p:α->Prop}{q:List D->Prop}(h:∀c,q c->∃x,p x/\c=f x):∀{es:List (List D)},(∀c∈es,q c)->∃l:List α,(∀x∈l,p x)/\es=l.map f
 |[],_=>⟨[],by simp,rfl⟩
 |c::es,hc=>by
  obtain⟨l,h1,rfl⟩:=r6 (es:=es) h (λc hc'=>hc c (by simp[hc']));obtain⟨x,h2,rfl⟩:=h c (hc c (by simp));exact⟨x::l,by simpa[h2]using h1,rfl⟩
end
theorem EE {α:Type}{p:Nat->α->Prop}:∀(n:Nat),(∀i,i<n->∃x,p i x)->∃l:List α,l.length=n/\∀i x,l[i]? =some x->p i x
 |0,_=>⟨[],rfl,λi x h=>by simp at h⟩
 |n+1,h=>by
  obtain⟨l,h1,h2⟩:=EE n (λi hi=>h i (by omega));obtain⟨x,hx⟩:=h n (by omega);refine⟨l++[x],by simp[h1],λi y hy=>?_⟩;by_cases hi:i<l.length
  ·exact h2 i y (by rwa[lS hi]at hy)
  ·rw[mF (by omega)]at hy;have hlt:=(cJ.1 hy).1;have e:i=n:=by simp at hlt;omega
   subst e;simp[h1]at hy;subst hy;exact hx
def iR (w:World)(ds:List D)(cs:List Value):Prop:=
 ds.length=cs.length/\∀(i:Nat) d v,ds[i]? =some d->cs[i]? =some v->RD (λn=>n<w.heap.size) w d v/\v.oneCell'=true
theorem iR.one {w:World}{d:D}{v:Value}(h:RD (λn=>n<w.heap.size) w d v)(h1:v.oneCell'=true):iR w [d] [v]:=by
 refine⟨rfl,λi d' v' h2 h3=>?_⟩;cases i with
 |zero=>simp at h2 h3;subst h2;subst h3;exact⟨h,h1⟩
 |succ i=>simp at h2
theorem iR.nil {w:World}:iR w [] []:=⟨rfl,λi d v h _=>by simp at h⟩
theorem iR.append {w:World}{a b:List D}{c d:List Value}(h1:iR w a c)(h2:iR w b d):iR w (a++b) (c++d):=by
 refine⟨by simp[h1.1,h2.1],λi x y hx hy=>?_⟩;by_cases hi:i<a.length
 ·rw[lS hi]at hx;rw[lS (by rw[<-h1.1];exact hi)]at hy;exact h1.2 i x y hx hy
 ·rw[mF (by omega)]at hx;rw[mF (by rw[<-h1.1];omega)]at hy;exact h2.2 _ x y hx (by rw[h1.1];exact hy)
theorem Dh {w:World}{a:Addr}{v:Value}(h:w.cell? a=some v):a.block<w.heap.size/\a.spot=none:=by
 unfold World.cell? at h;split at h
 ·rename_i c t fr hw;refine⟨(e7.1 hw).1,?_⟩;simp_all
 ·cases h
section
variable {H : Type} {enc : TypeId × Value -> H} {P : Program} {w : World} {base : Nat} {held : Bool}
theorem LS (off k:Nat)(cs:List Value):(cs.drop off).take k++cs.drop (off+k)=cs.drop off:=by
 rw[<-qG];exact List.take_append_drop k (cs.drop off)
theorem P6 :∀(n:Nat) (t:TypeId),o7 P n t=true->∀(fuel:Nat) (cs:List Value) (x:DataW H×List MemPlace),DataW.trod enc P w base (λ_=>true) held fuel t cs=some x->∃ds,Is P n t ds/\iR w ds cs:=by
 intro n;induction n with
 |zero=>intro t h;simp[o7]at h
 |succ n ih=>
  intro t hc fuel cs x h
  have fields:∀(fs:List Field) (off top:Nat),xQ P (o7 P n) off fs=some top->cs.length=top->
    (∀f∈fs,∃m y,DataW.trod enc P w base (λ_=>true) held m f.type ((cs.drop f.offset).take (P.cellsOf f.type))=some y)->∃ds,o9 (Is P n) (fs.map (·.type)) ds/\iR w ds (cs.drop off):=by
   intro fs;induction fs with
   |nil=>
    intro off top h1 h2 _;simp only[xQ,mV]at h1;refine⟨[],by simp[o9],?_⟩;rw[GJ (by omega)];exact .nil
   |cons f fs ihf=>
    intro off top h1 h2 h3;simp only[xQ]at h1;split at h1
    case isFalse=>cases h1
    rename_i h4;obtain⟨b,hb1,hb2⟩:=ihf (off+P.cellsOf f.type) top h1 h2 (λg hg=>h3 g (by simp[hg]));obtain⟨m,y,hy⟩:=h3 f (by simp);obtain⟨a,ha1,ha2⟩:=ih f.type h4.2 m _ y hy;refine⟨a++b,by rw[fM];unfold o9;exact⟨a,b,ha1,hb1,rfl⟩,?_⟩;rw[h4.1]at ha2;have:=ha2.append hb2
    rwa[LS]at this
  unfold o7 at hc;unfold Is;split at hc
  case h_1 hu=>
   rw[show dL P t=.bool by simp only[dL,hu]];obtain⟨b,rfl,_⟩:=DataW.trod_bool hu h;exact⟨_,⟨b,rfl⟩,iR.one (.v _) rfl⟩
  case h_2 k hu=>
   rw[show dL P t=.int k by simp only[dL,hu]];obtain⟨b,rfl,_,hw⟩:=DataW.trod_int hu h;exact⟨_,⟨b,hw,rfl⟩,iR.one (.v _) rfl⟩
  case h_3 hu=>
   rw[show dL P t=.str by simp only[dL,hu]];obtain⟨b,rfl,_,hw⟩:=DataW.trod_string hu h;exact⟨_,⟨b,hw,rfl⟩,iR.one (.v _) rfl⟩
  case h_4 e hu=>
   rw[show dL P t=.sl e by simp only[dL,hu]];simp only[bN,dO]at hc;rcases Go.Deep.open_slice hu h with⟨rfl,_⟩|⟨a,len,cap,m,k,E,Pl,rfl,hb,hl,hm,hmm,_,hx⟩
   ·exact⟨_,⟨[],by simp[maxLen],λc hc=>by simp at hc,rfl⟩,iR.one .nil rfl⟩
   ·simp only[dY]at hmm;subst hmm;have hall:∀i,i<len->∃ds,Is P n e ds/\∃cs',w.cells? base (a.add (i*P.cellsOf e)) (P.cellsOf e)=some cs'/\iR w ds cs':=λi hi=>by
     obtain⟨cs',h1,h2⟩:=hx i (by omega);obtain⟨ds,h3,h4⟩:=ih e hc.2 _ _ _ h2;exact⟨ds,h3,cs',h1,h4⟩
    obtain⟨es,he1,he2⟩:=EE len hall;refine⟨_,⟨es,by omega,λc hc=>?_,rfl⟩,iR.one ?_ rfl⟩
    ·obtain⟨i,hi⟩:=sO hc;exact(he2 i c hi).1
    ·rcases mX m with h0|h0
     ·subst h0;have:len=0:=by omega
      subst this;have:es=[]:=gX he1;subst this;exact .emp
     ·obtain⟨cs0,h1,_⟩:=hx 0 h0;obtain⟨_,h2,h3⟩:=World.cells?_some h1;have h4:=h3 0 hc.1;obtain⟨v0,h5⟩:∃v,cs0[0]? =some v:=⟨cs0[0]'(by omega),by simp⟩;rw[h5]at h4;simp only[Nat.zero_mul,Addr.add_zero']at h4;have h6:=Dh h4;have ha:a=⟨a.block,a.off,none⟩:=by
       have:a.spot=none:=h6.2;cases a;simp_all
      have key:∀i j,i<len->j<P.cellsOf e->w.cell? ⟨a.block,a.off+i*P.cellsOf e+j,none⟩=some ((w.cell? ⟨a.block,a.off+i*P.cellsOf e+j,none⟩).getD undef):=λi j hi hj=>by
       obtain⟨ds,_,cs',g1,g2⟩:=hall i hi;obtain⟨_,g3,g4⟩:=World.cells?_some g1;have g5:=g4 j hj;rw[ha]at g5;have g6:((⟨a.block,a.off,none⟩:Addr).add (i*P.cellsOf e)).add j=⟨a.block,a.off+i*P.cellsOf e+j,none⟩:=by rw[Addr.add_lit,Addr.add_lit]
       rw[g6]at g5;rw[g5,bL (by omega)];rfl
      have val:∀(i:Nat) e' (j:Nat) c,es[i]? =some e'->e'[j]? =some c->i<len/\j<P.cellsOf e/\RD (λn=>n<w.heap.size) w c ((w.cell? ⟨a.block,a.off+i*P.cellsOf e+j,none⟩).getD undef)/\((w.cell? ⟨a.block,a.off+i*P.cellsOf e+j,none⟩).getD undef).oneCell'=true:=by
       intro i e' j c g1 g2;obtain⟨_,cs',g3,g4⟩:=he2 i e' g1;have hi:i<len:=by rw[<-he1];exact(cJ.1 g1).1
       obtain⟨_,g5,g6⟩:=World.cells?_some g3;have hj:j<P.cellsOf e:=by rw[<-g5,<-g4.1];exact(cJ.1 g2).1
       have g7:=g6 j hj;rw[ha]at g7;have g8:((⟨a.block,a.off,none⟩:Addr).add (i*P.cellsOf e)).add j=⟨a.block,a.off+i*P.cellsOf e+j,none⟩:=by rw[Addr.add_lit,Addr.add_lit]
       rw[g8]at g7;rw[g7];obtain⟨v,g9⟩:∃v,cs'[j]? =some v:=⟨cs'[j]'(by omega),by simp⟩;rw[g9];exact⟨hi,hj,g4.2 j c v g2 g9⟩
      rw[ha,<-he1];refine .ro (sz:=P.cellsOf e) (λi j=>(w.cell? ⟨a.block,a.off+i*P.cellsOf e+j,none⟩).getD undef) h6.1 (λe' he'=>?_) (by omega) hm (λh=>by cases h) (λi e' j c g1 g2=>?_) (λi e' j c g1 g2=>?_) (λi e' j c g1 g2=>?_)
      ·obtain⟨i,hi⟩:=sO he';obtain⟨_,cs',g3,g4⟩:=he2 i e' hi;rw[g4.1,(World.cells?_some g3).2.1]
      ·exact key i j (val i e' j c g1 g2).1 (val i e' j c g1 g2).2.1
      ·exact(val i e' j c g1 g2).2.2.1
      ·exact(val i e' j c g1 g2).2.2.2
  case h_5 fs hu=>
   rw[show dL P t=.st (fs.toList.map (·.type)) by simp only[dL,hu]];obtain⟨xs,m,_,_,h1,h2,h3⟩:=DataW.trod_struct hu h;obtain⟨ds,h4,h5⟩:=fields fs.toList 0 _ (by simpa using hc) h1 (λf hf=>by
    obtain⟨i,hi⟩:=sO hf;have hi':fs[i]? =some f:=by simpa using hi
    have hlt:i<xs.length:=by rw[h2];exact(e7.1 hi').1
    exact⟨m,xs[i],by rw[h3 i f hi'];simp⟩)
   exact⟨ds,h4,by simpa using h5⟩
  case h_6 k e hu=>
   rw[show dL P t=.arr k e by simp only[dL,hu]];simp only[bN,dO]at hc;obtain⟨xs,m,_,_,h1,h2,h3⟩:=DataW.trod_array hu h;have hall:∀i,i<k->∃ds,Is P n e ds/\iR w ds ((cs.drop (i*P.cellsOf e)).take (P.cellsOf e)):=λi hi=>
    ih e hc.2 m _ xs[i] (by rw[h3 i hi];simp)
   obtain⟨es,he1,he2⟩:=EE k hall;refine⟨es.flatten,⟨es,he1,λc hc=>?_,rfl⟩,?_⟩
   ·obtain⟨i,hi⟩:=sO hc;exact(he2 i c hi).1
   ·have:∀(l:List (List D)) (off:Nat),off+l.length=k->(∀i d,l[i]? =some d->iR w d ((cs.drop ((off+i)*P.cellsOf e)).take (P.cellsOf e)))->iR w l.flatten (cs.drop (off*P.cellsOf e)):=by
     intro l;induction l with
     |nil=>
      intro off h4 _;rw[GJ (by simp at h4;rw[h1,<-hc.1,h4];exact aY _)];exact .nil
     |cons d l ihl=>
      intro off h4 h5;have h6:=ihl (off+1) (by simp at h4;omega) (λi d' hd=>by
       have:=h5 (i+1) d' (by simpa using hd)
       rwa[show off+(i+1)=off+1+i by omega]at this)
      have h7:=(h5 0 d rfl).append h6;rw[show(off+1)*P.cellsOf e=off*P.cellsOf e+P.cellsOf e by rw[fU];simp]at h7;simp only[uH]at h7;rw[LS]at h7;simpa using h7
    have:=this es 0 (by omega) (λi d hd=>by simpa using(he2 i d hd).2);simpa using this
  case h_7=>cases hc
end
def qV :Names:=λ_=>none
def vL (P:Program)(t:TypeId):Bool:=match P.underlying t with
 |some (.struct _)=>true
 |some (.array _ _)=>true
 |_=>false
def xX (g:Bool)(ds:List D):AV:=if g then .agg (ds.map .d)else .d (ds.headD (.v undef))
def tY (I:Nat->Prop)(W:World):List AV->List Value->Prop
 |[],[]=>True
 |c::cs,x::xs=>RV qV I W c x/\tY I W cs xs
 |_,_=>False
theorem tY.get {I:Nat->Prop}{W:World}:∀{cs:List AV} {vs:List Value},tY I W cs vs->∀(i:Nat) c x,cs[i]? =some c->vs[i]? =some x->RV qV I W c x
 |[],_,_,_,_,_,h,_=>by simp at h
 |_::_,[],h,_,_,_,_,_=>h.elim
 |_::_,_::_,h,0,c,x,h1,h2=>by
  simp at h1 h2;subst h1;subst h2;exact h.1
 |_::_,_::_,h,i+1,c,x,h1,h2=>h.2.get i c x (by simpa using h1) (by simpa using h2)
theorem tY.length {I:Nat->Prop}{W:World}:∀{cs:List AV} {vs:List Value},tY I W cs vs->vs.length=cs.length
 |[],[],_=>rfl
 |[],_::_,h=>h.elim
 |_::_,[],h=>h.elim
 |_::_,_::_,h=>by simp[h.2.length]
def GD (P:Program)(n:Nat):List TypeId->List AV->Prop
 |[],avs=>avs=[]
 |t::ts,avs=>∃ds bs,Is P n t ds/\GD P n ts bs/\avs=xX (vL P t) ds::bs
section
variable {H : Type} {enc : TypeId × Value -> H} {P : Program}
theorem Fv {W:World}{base n:Nat}{t:TypeId}{v:Value}{ds:List D}(hc:o7 P n t=true)(h:iR W ds v.cells.toList)(hv:Value.okWide P W .any base t v):RV qV (λn=>n<W.heap.size) W (xX (vL P t) ds) v:=by
 cases n with
 |zero=>simp[o7]at hc
 |succ n=>
  have one:∀{v:Value},v.cells=#[v]->iR W ds v.cells.toList->RV qV (λn=>n<W.heap.size) W (xX false ds) v:=λ{v} hv h=>by
   rw[hv]at h;obtain⟨h1,h2⟩:=h
   match ds,h1 with
   |[d],_=>exact .d (h2 0 d v rfl rfl).1
  have many:∀{cs:Array Value},iR W ds cs.toList->RV qV (λn=>n<W.heap.size) W (xX true ds) (.agg cs):=λ{cs} h=>by
   have:RV qV (λn=>n<W.heap.size) W (.agg (ds.map .d)) (.agg cs.toList.toArray):=.agg (by simp[<-h.1]) λi c x h1 h2=>by
    simp only[fN]at h1;obtain⟨d,h3,rfl⟩:=iU.1 h1;exact .d (h.2 i d x h3 h2).1
   simpa[xX]using this
  unfold o7 at hc;unfold vL;split at hc
  case h_1 hu=>
   obtain⟨b,rfl⟩:=okWide_bool hu hv;rw[hu];exact one rfl h
  case h_2 hu=>
   obtain⟨b,rfl⟩:=okWide_int hu hv;rw[hu];exact one rfl h
  case h_3 hu=>
   obtain⟨b,rfl⟩:=okWide_string hu hv;rw[hu];exact one rfl h
  case h_4 hu=>
   obtain⟨a,l,c,rfl⟩:=okWide_slice hu hv;rw[hu];exact one rfl h
  case h_5 hu=>
   simp only[Value.okWide,hu]at hv;obtain⟨cs,rfl,_⟩:=hv;rw[hu];exact many (cs:=cs) h
  case h_6 hu=>
   simp only[Value.okWide,hu]at hv;obtain⟨cs,rfl,_⟩:=hv;rw[hu];exact many (cs:=cs) h
  case h_7=>cases hc
theorem G1 {W:World}{base n:Nat}:∀{ts:List TypeId} {vs:List Value} {ds:List (DataW H)} {ps:List MemPlace},DataW.TrodAll enc P W 0 (λ_=>true) true ts vs ds ps->(∀t∈ts,o7 P n t=true)->
  (∀(j:Nat) t v,ts[j]? =some t->vs[j]? =some v->Value.okWide P W .any base t v)->∃avs,GD P n ts avs/\tY (λn=>n<W.heap.size) W avs vs
 |[],[],_,_,_,_,_=>⟨[],rfl,trivial⟩
 |t::ts,v::vs,d::ds,ps,h,hc,hv=>by
  obtain⟨p,q,⟨fuel,h1⟩,h2,_⟩:=h;obtain⟨bs,h3,h4⟩:=G1 h2 (λt ht=>hc t (by simp[ht])) (λj t v h5 h6=>hv (j+1) t v (by simpa using h5) (by simpa using h6));obtain⟨xs,h5,h6⟩:=P6 n t (hc t (by simp)) fuel _ _ h1;exact⟨_,⟨xs,bs,h5,h3,rfl⟩,Fv (hc t (by simp)) h6 (hv 0 t v rfl rfl),h4⟩
 |[],_::_,_,_,h,_,_=>by cases‹List (DataW H)›<;>exact h.elim
 |_::_,[],_,_,h,_,_=>by cases‹List (DataW H)›<;>exact h.elim
 |_::_,_::_,[],_,h,_,_=>h.elim
theorem G3 (hl:laidOutB P=true){W W':World}(hb:Below W.heap.size W W'):
  ∀{ts:List TypeId} {vs:List Value} {ds:List (DataW H)} {ps:List MemPlace},(∀t∈ts,P.readableRec t=true/\t<P.types.size)->
   DataW.TrodAll enc P W 0 (λ_=>true) true ts vs ds ps->(∀x∈ps,x.block<W.heap.size)->
   DataW.TrodAll enc P W' 0 (λb=>decide (b<W.heap.size)) true ts vs ds ps
 |[],[],[],_,_,h,_=>h
 |t::ts,v::vs,d::ds,ps,hr,h,hlt=>by
  obtain⟨p,q,h1,h2,rfl⟩:=h;exact⟨p,q,Below.trod hl (hr t (by simp)).1 (hr t (by simp)).2 h1 hb (λx hx=>hlt x (by simp[hx])),
   G3 hl hb (λu hu=>hr u (by simp[hu])) h2 (λx hx=>hlt x (by simp[hx])),rfl⟩
 |[],[],_::_,_,_,h,_=>h.elim
 |[],_::_,_,_,_,h,_=>h.elim
 |_::_,[],_,_,_,h,_=>h.elim
 |_::_,_::_,[],_,_,h,_=>h.elim
theorem G2 {W:World}{b:Nat}{sp:Nat->Bool}{hd:Bool}:
  ∀{ts:List TypeId} {vs:List Value} {ds:List (DataW H)} {ps:List MemPlace},DataW.TrodAll enc P W b sp hd ts vs ds ps->vs.length=ts.length/\ds.length=ts.length
 |[],[],[],_,_=>⟨rfl,rfl⟩
 |t::ts,v::vs,d::ds,ps,h=>by
  obtain⟨p,q,h1,h2,rfl⟩:=h;have:=G2 h2;simp[this.1,this.2]
 |[],[],_::_,_,h=>h.elim
 |[],_::_,_,_,h=>h.elim
 |_::_,[],_,_,h=>h.elim
 |_::_,_::_,[],_,h=>h.elim
theorem UU {f:Func}{s:ChangeSpec}{apart fresh handsOn:Bool}{W W':World}{args:Array Value}{ds gs:List (DataW H)}{before:List MemPlace}{tb:TypeId}
  (hl:laidOutB P=true) (hr:∀t∈f.params.toList,P.readableRec t=true/\t<P.types.size) (hW:DataW.Whole enc P f.params.toList s.vars apart W args.toList ds gs before)
  (hv:s.vars=[]) (hs:∀ds:List (DataW H),ds.length=f.params.size->s.fn H ds={results:=[.lit (.bool true)],args:=ds}) (hrt:f.resultTypes=#[tb]) (htb:P.underlying tb=some .bool)
  (hb:Below W.heap.size W W'):s.post enc P f apart fresh handsOn false W args (.bool true) W':=by
 have hW':=hW;have hlt:=hW.lt;obtain⟨p,q,hA,hV,rfl,hz,hn⟩:=hW;rw[hv]at hV;obtain⟨rfl,rfl⟩:=trodVars_none hV;have hlen:=(G2 hA).2;have e:=hs ds (by simpa using hlen);refine⟨ds,[],p++[],[],p,[],hW',?_,?_,?_,hb.frame _,λh=>by cases h⟩
 ·rw[yL,e,hrt];exact trodAll_mk1 (shut_bool htb true)
 ·rw[yL,e];exact G3 hl hb hr hA (λx hx=>hlt x (by simpa using hx))
 ·rw[yL,e,hv];rfl
end
end Go.AI
namespace Go.AI
theorem cB.IH {σ:Names}{I:Nat->Prop}{w:World}{m:Mem}{nm:Nat}(hI:∀n,I n->n<w.heap.size)(hm:RM σ I w m):cB σ I w m nm σ I w m:=
 ⟨rfl,rfl,⟨rfl,aY _⟩,aY _,λ_ _ h=>h,λ_ h h'=>absurd h h',λ_ h=>h,hI,λ_ h=>.inl h,λ_ _ _=>rfl,hm,λb k h=>.inl (by rw[h];simp),λ_ h=>.inl h⟩
theorem Ct.pure {P:Program}{f:FuncId}{xs:List Value}{r:Value}(h:∀w,Calls P f xs.toArray w λe w'=>e=.returned r/\w'=w):Ct P f (xs.map λx=>.d (.v x)) [] [] (.d (.v r)) []:=by
 intro σ I w vs hI hl ha hm hn;have e:vs=xs:=by
  refine yJ λi=>?_;by_cases hi:i<vs.length
  ·have hi':i<xs.length:=by simpa[hl]using hi
   have:=ha i (.d (.v xs[i])) vs[i] (by simp[hi']) (by simp[hi]);generalize e1:vs[i]=y at this;generalize e2:xs[i]=z at this;have e:y=z:=by
    cases this with
    |d h=>cases h with
     |v=>rfl
   simp[hi,hi',e1,e2,e]
  ·have hi':xs.length<=i:=by simp at hl;omega
   rw[CF (by omega),CF hi']
 subst e;exact(h w).mono λe w' ⟨h1,h2⟩=>⟨r,σ,I,h1,by rw[h2];exact cB.IH hI hm,.d (.v r)⟩
abbrev jY (f:FuncId):D:=.v (.func (.func f) #[] #[])
theorem bP.of {P:Program}{f:FuncId}{args:List AV}{res:AV}(h:Ct P f args [] [] res [])(he:Enters P f)(h1:cY.gS (λb=>decide (b<0)) args=true)(h2:cY (kE 0) res=true):bP P (.d (jY f)) args res:=
 ⟨f,[],[],rfl,he,by simpa using h,by simpa using h1,h2⟩
theorem bP.j2 {P:Program}{f:FuncId}{args:List AV}{cap:List D}{res:AV}(h:Ct P f (args++cap.map .d) [] [] res [])(he:Enters P f)(h1:cY.gS (λb=>decide (b<0)) (args++cap.map .d)=true)(h2:cY (kE 0) res=true):bP P (.d (.fn (.func f) [] cap)) args res:=
 ⟨f,[],cap.map .d,rfl,he,by simpa using h,by simpa using h1,h2⟩
end Go.AI
