/-
  A FRAMEWORK OF MY OWN (4): rounds of ranges over functions, contracts under a premise, functions with a receiver, what goes up, jumps, short forms.
-/
import Derived.Test.YtegplpagkajolaaGreatDoorFc
import Derived.Scope
import Derived.ScopeJumps
import Derived.Shelf.Lays2
import Derived.Shelf.RegionOpenPlain
import Derived.WalkKit
import Derived.Deep.LoopGhost
import Derived.Deep.RegionLaw
import Derived.Lib.Walk
import Derived.Sort.WalkB12
import Derived.Sort.EncStr
import Derived.Lib.SliceRun
import Derived.Lib.SlicesDelete
import Derived.LoopNIn
set_option linter.unusedSimpArgs false
set_option linter.unusedVariables false
set_option maxRecDepth 100000
set_option maxHeartbeats 8000000
namespace Go.AI
theorem RB.zew {σ:Names}{I:Nat->Prop}{w:World}{k:bC}{x:Value}{n:Nat}{r:Loop}(h:RB σ I w k x)(hn:hb x=some n):w.heap[n]? ≠some (.loop r):=by
 cases h with
 |cells h1 h2 h3=>simp[hb]at hn;subst hn;rw[h1];simp
 |none=>simp[hb]at hn
 |emp a=>simp[hb]at hn
 | @grow sz es T n' cap arr h1 h2 h3 h4 h5 h6=>
   cases cap with
   |zero=>simp[hb]at hn
   |succ cap=>simp[hb]at hn;subst hn;rw[h1];simp
 |map keys vals h1 _ _ _ _ _=>simp[hb]at hn;subst hn;rw[h1];simp
 |oW keys vals h1 _ _ _ _ _ _ _ _=>simp[hb]at hn;subst hn;rw[h1];simp
 |iter h1 h2=>subst h2;simp[hb]at hn;subst hn;rw[h1];simp
 |zN=>simp[hb]at hn
 |yF a=>simp[hb]at hn
 |eW h1 h2 h3 h4 h5=>simp[hb]at hn;subst hn;rw[h1];simp
theorem P0 {σ:Names}{I:Nat->Prop}{w:World}{m:Mem}(hm:RM σ I w m){n:Nat}{r:Loop}(hn:w.heap[n]? =some (.loop r)):¬fU σ m n:=by
 rintro⟨b,k,x,h1,h2,h3⟩;obtain⟨x',h4,h5,_⟩:=hm.bQ b k h1;rw[h2]at h4;cases h4;exact h5.zew h3 hn
def PC (m m':List (Nat×bC)):Exit->X->Prop:=fun e x=>e=.normal/\BJ (dM x.mm) (.d (.v undef)) m (.d (.v undef)) m' []
theorem zb3 {P:Program}{nt L dp:Nat}{r:Loop}{tmA tmB:List (Nat×AV)}{m0 m1 mB:List (Nat×bC)}{nxB:Nat}(hm:P.follows .mixedOrders=true)(hrs:r.state=.ready)(hrp:r.pending=none)
  (hA:CI (some L) dp (fun _ _ _=>True) P nt (fun e x=>e=.normal/\AI.Sub x tmB mB nxB []) [.code r.assign] ⟨tmA,m0.map (fun p=>(p.1,some p.2)),64⟩)
  (hB:CI (some L) dp (fun _ _ _=>True) P nt (PC m0 m1) [.code r.body] ⟨tmB,mB.map (fun p=>(p.1,some p.2)),nxB⟩)
  {T:Array Value} {w:World} {σ:Names} {I:Nat->Prop} (hib:∀n,I n->n<w.heap.size) (hsz:T.size=nt) (htm:∀t,RV σ I w (dB tmA t) (T.getD t undef)) (hrm:RM σ I w (bE m0)) (hlow:∀b,64<=b->σ b=none)
  (hL:w.heap[L]? =some (.loop r)) (hI:¬I L):
  RoundIn (FW none) dp P L r.fn T r.assign r.body w (fun e w'=>e=.returned (.bool true)/\∃I',fK σ I w (bE m0) 64 σ I' w' (bE m1)):=by
 refine roundIn_of_wpIn (F:=FW none) trivial ?_;have hLlt:L<w.heap.size:=(qX.1 hL).1
 let E1:Ctx:={P:=P,w0:=w,uM:=fU σ (bE m0),I0:=I,nt:=nt,s0:=σ}
 have hlk:dM (m0.map fun p=>(p.1,some p.2))=bE m0:=GH _;have hrel1:Rel E1 (X.den ⟨tmA,m0.map (fun p=>(p.1,some p.2)),64⟩) {tmps:=T,defers:=[]} w:=by
  refine⟨σ,I,hsz,rfl,htm,?_,fun b hb=>hlow b hb,hib,fun _ h=>h,fun n h=>.inl h,fun n h=>?_,rfl,rfl,⟨rfl,cM _⟩,cM _,fun _ _ _=>rfl,fun _ _ h=>h,hlow⟩
  ·show RM σ I w (dM _);rw[hlk];exact hrm
  ·have h':fU σ (dM (m0.map fun p=>(p.1,some p.2))) n:=h;rw[hlk]at h';exact .inl h'
 have hw:=(BL hm hA E1 rfl rfl (fun _ _ _ _ _ _=>trivial)).1 rfl _ w hrel1;simp only[eP]at hw;refine BO hw (fun e a1 w1 hq=>?_);obtain⟨x,hx,rfl,hsub⟩:tL E1 (fun e x=>e=.normal/\AI.Sub x tmB mB nxB []) e a1 w1:=by
  cases e<;>simpa[eP]using hq
 obtain⟨σ2,I2,hr2⟩:=Rel.sub hsub hx;have hnb:¬fU σ (bE m0) L:=P0 hrm hL;have hL1:w1.heap[L]? =some (.loop r):=(hr2.frame L hLlt hnb).trans hL;have hI2:¬I2 L:=fun h=>by
  rcases hr2.lQ L h with g|g|g
  ·exact hI g
  ·exact hnb g
  ·have g':w.heap.size<=L:=g;omega
 have hlkB:dM (mB.map fun p=>(p.1,some p.2))=bE mB:=GH _;have hmB:RM σ2 I2 w1 (bE mB):=by rw[<-hlkB];exact hr2.mm
 have hnB:¬fU σ2 (bE mB) L:=P0 hmB hL1;obtain⟨W,hW⟩:∃W,w1.putObj L (.loop {r with state:=.busy})=W:=⟨_,rfl⟩;have hLlt1:L<w1.heap.size:=(qX.1 hL1).1;have hWo:∀n,n≠L->W.heap[n]? =w1.heap[n]? :=fun n h=>by rw[<-hW];exact World.putObj_heap_other h
 have hWL:W.heap[L]? =some (.loop {r with state:=.busy}):=by rw[<-hW];exact World.putObj_heap_same hLlt1
 have hWs:W.heap.size=w1.heap.size:=by rw[<-hW];simp[World.putObj]
 have hmB':RM σ2 I2 W (bE mB):=by
  refine⟨fun b k hb'=>?_,fun b b' k k' x x' n h1 h2 h3 h4 h5 h6=>hmB.apart b b' k k' x x' n h1 h2 h3 h4 h5 h6⟩;obtain⟨y,hy,hrb,hn⟩:=hmB.bQ b k hb';refine⟨y,hy,hrb.mono (fun n h=>hWo n (fun e=>hI2 (e▸h))) (fun _ h=>h) (fun _ _ h=>h) (fun n h=>hWo n (fun e=>?_)),fun n h=>⟨by rw[hWs];exact(hn n h).1,(hn n h).2⟩⟩;subst e;exact hnB ⟨b,k,y,hb',hy,h⟩
 refine⟨W,by rw[<-hW];exact run_beginRound hL1 hrs,?_⟩
 let E2:Ctx:={P:=P,w0:=W,uM:=fU σ2 (bE mB),I0:=I2,nt:=nt,s0:=fun b=>if b<64 then σ2 b else none}
 have hrel2:Rel E2 (X.den ⟨tmB,mB.map (fun p=>(p.1,some p.2)),nxB⟩) a1 W:=by
  refine⟨σ2,I2,hr2.size,hr2.yN,fun t=>(hr2.tm t).mono (fun n h=>hWo n (fun e=>hI2 (e▸h))) (fun _ h=>h) (fun _ _ h=>h),?_,hr2.free,fun n h=>by rw[hWs];exact hr2.ib n h,fun _ h=>h,fun n h=>.inl h,fun n h=>?_,rfl,rfl,⟨rfl,cM _⟩,cM _,fun _ _ _=>rfl,fun b y hy=>?_,fun b hb'=>?_⟩
  ·show RM σ2 I2 W (dM _);rw[hlkB];exact hmB'
  ·have h':fU σ2 (dM (mB.map fun p=>(p.1,some p.2))) n:=h;rw[hlkB]at h';exact .inl h'
  ·simp only[E2]at hy;split at hy
   ·exact hy
   ·cases hy
  ·simp only[E2];rw[aH (by omega)]
 have hwB:=(BL hm hB E2 rfl rfl (fun _ _ _ _ _ _=>trivial)).1 rfl _ W hrel2;simp only[eP]at hwB;refine BO hwB (fun e a2 w2 hq2=>?_);obtain⟨y,⟨σf,If,hrf⟩,rfl,hfin⟩:tL E2 (PC m0 m1) e a2 w2:=by
  cases e<;>simpa[eP]using hq2
 have hL2:w2.heap[L]? =some (.loop {r with state:=.busy}):=(hrf.frame L (by show L<W.heap.size;omega) hnB).trans hWL;refine⟨_,_,run_endRound none hL2,?_⟩;have hre:({{r with state:=.busy}with state:=if(none:Option Code).isNone then .ready else .done,pending:=none}:Loop)=r:=by
  cases r;simp at hrs hrp;subst hrs;subst hrp;rfl
 rw[hre];obtain⟨w3,hw3⟩:∃w3,w2.putObj L (.loop r)=w3:=⟨_,rfl⟩;have hLlt2:L<w2.heap.size:=(qX.1 hL2).1;have h3o:∀n,n≠L->w3.heap[n]? =w2.heap[n]? :=fun n h=>by rw[<-hw3];exact World.putObj_heap_other h
 have h3L:w3.heap[L]? =some (.loop r):=by rw[<-hw3];exact World.putObj_heap_same hLlt2
 have h3s:w3.heap.size=w2.heap.size:=by rw[<-hw3];simp[World.putObj]
 have h3os:w3.os=w2.os:=by rw[<-hw3];rfl
 have h3tape:w3.tape=w2.tape:=by rw[<-hw3];rfl
 have h3out:sP w3 w2:=by rw[<-hw3];exact⟨rfl,cM _⟩
 have hWos:W.os=w1.os:=by rw[<-hW];rfl
 have hWtape:W.tape=w1.tape:=by rw[<-hW];rfl
 have hWout:sP W w1:=by rw[<-hW];exact⟨rfl,cM _⟩
 rw[hw3];have hmf:RM σf If w2 (dM y.mm):=hrf.mm;have e2hs:W.heap.size<=w2.heap.size:=hrf.hs;have e1hs:w.heap.size<=w1.heap.size:=hr2.hs;have own2:∀n,fU σ2 (bE mB) n->fU σ (bE m0) n\/w.heap.size<=n:=fun n h=>hr2.kX n (by
  show fU σ2 (dM _) n;rw[hlkB];exact h)
 have hIf:¬If L:=fun h=>by
  rcases hrf.lQ L h with g|g|g
  ·exact hI2 g
  ·exact hnB g
  ·have g':W.heap.size<=L:=g;omega
 have hnf:¬fU σf (dM y.mm) L:=P0 hmf hL2;have up:∀b,b<64->∀z,σ b=some z->σf b=some z:=fun b hb' z hz=>by
  have h2:=hr2.keep b z hz;exact hrf.keep b z (by simp only[E2];rw[aU hb'];exact h2)
 have nm:∀b,aV m0 [] b=true->b<64/\∃k,bE m0 b=some k:=fun b hb'=>by
  simp[aV,lO]at hb';exact⟨hb'.1,pA.1 hb'.2⟩
 have gid:∀b,gf [] b=b:=fun b=>by simp[gf,lO]
 have down:∀b,aV m0 [] b=true->∀z,σf (gf [] b)=some z->σ b=some z:=fun b hb' z hz=>by
  obtain⟨h1,k,hk⟩:=nm b hb';obtain⟨z0,hz0,_⟩:=hrm.bQ b k hk;have:=up b h1 z0 hz0;rw[gid,this]at hz;rw[hz0];exact hz
 have hblk:∀b k,bE m1 b=some k->∃u,σ b=some u/\σf b=some u/\dM y.mm b=some (k.cF (gf []))/\RB σ If w3 k u/\∀n,hb u=some n->n<w3.heap.size/\¬If n:=by
  intro b k hb';have hmem:=nV hb';have hpo:=hfin.post _ hmem;obtain⟨d1,d2⟩:=hfin.wW _ hmem;simp only[gid]at hpo;obtain⟨u,hu,hrb,hnn⟩:=hmf.bQ _ _ hpo;refine⟨u,down b d1 u (by rw[gid];exact hu),hu,hpo,?_,fun n h=>⟨by rw[h3s];exact(hnn n h).1,(hnn n h).2⟩⟩;refine J8 down (hrb.mono (fun n h=>h3o n (fun e=>hIf (e▸h))) (fun _ h=>h) (fun _ _ h=>h) (fun n h=>h3o n (fun e=>?_))) d2;subst e;exact hnf ⟨_,_,_,hpo,hu,h⟩
 have ownf:∀n,fU σ (bE m1) n->fU σf (dM y.mm) n:=by
  rintro n ⟨b,k,u,h1,h2,h3⟩;obtain⟨u',g1,g2,g3,_,_⟩:=hblk b k h1;rw[h2]at g1;cases g1;exact⟨b,_,u,g3,g2,h3⟩
 have mine2:∀n,fU σf (dM y.mm) n->fU σ (bE m0) n\/w.heap.size<=n:=fun n h=>by
  rcases hrf.kX n h with g|g
  ·exact own2 n g
  ·have g':W.heap.size<=n:=g;exact .inr (by omega)
 refine⟨rfl,If,?_⟩;refine⟨h3os.trans (hrf.os.trans (hWos.trans hr2.os)),h3tape.trans (hrf.tape.trans (hWtape.trans hr2.tape)),h3out.trans (hrf.output.trans (hWout.trans hr2.output)),by omega,fun _ _ h=>h,fun b h1 h2=>absurd h1 h2,fun n h=>hrf.i0 n (hr2.i0 n h),fun n h=>by rw[h3s];exact hrf.ib n h,fun n h=>?_,fun n h1 h2=>?_,⟨fun b k hb'=>?_,fun b b' k k' u u' n q1 q2 q3 q4 q5 q6=>?_⟩,fun b k hb'=>?_,fun n h=>mine2 n (ownf n h)⟩
 ·rcases hrf.lQ n h with g|g|g
  ·rcases hr2.lQ n g with g|g|g
   ·exact .inl g
   ·exact .inr (.inr g)
   ·exact .inr (.inl g)
  ·rcases own2 n g with g|g
   ·exact .inr (.inr g)
   ·exact .inr (.inl g)
  ·have g':W.heap.size<=n:=g;exact .inr (.inl (by omega))
 ·by_cases e:n=L
  ·subst e;rw[h3L,hL]
  ·rw[h3o n e,hrf.frame n (by show n<W.heap.size;omega) (fun h=>?_),hWo n e]
   ·exact hr2.frame n h1 h2
   ·rcases own2 n h with g|g
    ·exact h2 g
    ·omega
 ·obtain⟨u,g1,g2,g3,g4,g5⟩:=hblk b k hb';exact⟨u,g1,g4,g5⟩
 ·obtain⟨v,g1,g2,g3,g4,g5⟩:=hblk b k q1;obtain⟨v',g1',g2',g3',g4',g5'⟩:=hblk b' k' q2;rw[q3]at g1;cases g1;rw[q4]at g1';cases g1';exact hmf.apart _ _ _ _ _ _ n g3 g3' g2 g2' q5 q6
 ·obtain⟨h1,q,hq'⟩:=nm b (hfin.wW _ (nV hb')).1;left;rw[hq'];simp
theorem zc3 {E:Ctx}{w w':World}{σ σf:Names}{I If:Nat->Prop}{a:Act}{y:X}{m0 m1:List (Nat×bC)}(hw0:E.w0=w)(hbor:E.uM=fU σ (bE m0))(hI0:E.I0=I)(hs0:E.s0=σ)
  (hrm:RM σ I w (bE m0)) (hrf:pM E y.den σf If a w') (hfin:BJ (dM y.mm) (.d (.v undef)) m0 (.d (.v undef)) m1 []):fK σ I w (bE m0) 64 σ If w' (bE m1):=by
 subst hw0 hI0 hs0;have hmf:RM σf If w' (dM y.mm):=hrf.mm;have nm:∀b,aV m0 [] b=true->b<64/\∃k,bE m0 b=some k:=fun b hb'=>by
  simp[aV,lO]at hb';exact⟨hb'.1,pA.1 hb'.2⟩
 have gid:∀b,gf [] b=b:=fun b=>by simp[gf,lO]
 have down:∀b,aV m0 [] b=true->∀z,σf (gf [] b)=some z->E.s0 b=some z:=fun b hb' z hz=>by
  obtain⟨h1,k,hk⟩:=nm b hb';obtain⟨z0,hz0,_⟩:=hrm.bQ b k hk;have:=hrf.keep b z0 hz0;rw[gid,this]at hz;rw[hz0];exact hz
 have hblk:∀b k,bE m1 b=some k->∃u,E.s0 b=some u/\σf b=some u/\dM y.mm b=some (k.cF (gf []))/\RB E.s0 If w' k u/\∀n,hb u=some n->n<w'.heap.size/\¬If n:=by
  intro b k hb';have hmem:=nV hb';have hpo:=hfin.post _ hmem;obtain⟨d1,d2⟩:=hfin.wW _ hmem;simp only[gid]at hpo;obtain⟨u,hu,hrb,hnn⟩:=hmf.bQ _ _ hpo;exact⟨u,down b d1 u (by rw[gid];exact hu),hu,hpo,J8 down hrb d2,hnn⟩
 have kX:∀n,fU σf (dM y.mm) n->fU E.s0 (bE m0) n\/E.w0.heap.size<=n:=fun n h=>by
  have:=hrf.kX n h
  rwa[hbor]at this
 refine⟨hrf.os,hrf.tape,hrf.output,hrf.hs,fun _ _ h=>h,fun b h1 h2=>absurd h1 h2,fun n h=>hrf.i0 n h,hrf.ib,fun n h=>?_,fun n h1 h2=>hrf.frame n h1 (by rw[hbor];exact h2),⟨fun b k hb'=>?_,fun b b' k k' u u' n q1 q2 q3 q4 q5 q6=>?_⟩,fun b k hb'=>?_,fun n h=>?_⟩
 ·rcases hrf.lQ n h with g|g|g
  ·exact .inl g
  ·rw[hbor]at g;exact .inr (.inr g)
  ·exact .inr (.inl g)
 ·obtain⟨u,g1,g2,g3,g4,g5⟩:=hblk b k hb';exact⟨u,g1,g4,g5⟩
 ·obtain⟨v,g1,g2,g3,g4,g5⟩:=hblk b k q1;obtain⟨v',g1',g2',g3',g4',g5'⟩:=hblk b' k' q2;rw[q3]at g1;cases g1;rw[q4]at g1';cases g1';exact hmf.apart _ _ _ _ _ _ n g3 g3' g2 g2' q5 q6
 ·obtain⟨h1,q,hq'⟩:=nm b (hfin.wW _ (nV hb')).1;left;rw[hq'];simp
 ·obtain⟨b,k,u,h1,h2,h3⟩:=h;obtain⟨u',g1,g2,g3,_,_⟩:=hblk b k h1;rw[h2]at g1;cases g1;exact kX n ⟨b,_,u,g3,g2,h3⟩
def KA (s0:Names)(L:Nat)(r:Loop):Names->(Nat->Prop)->World->Prop:=fun σ I w=>(∀b x,s0 b=some x->σ b=some x)/\w.heap[L]? =some (.loop r)/\¬I L
theorem KA.zej {E:Ctx}{s0:Names}{L:Nat}{r:Loop}{m0:List (Nat×bC)}{I0:Nat->Prop}(hs0:E.s0=s0)(hI0:E.I0=I0)(hbor:E.uM=fU s0 (bE m0))(hrm:RM s0 I0 E.w0 (bE m0))(hL:E.w0.heap[L]? =some (.loop r))(hI:¬I0 L):
  ∀s σ I a w,pM E s σ I a w->KA s0 L r σ I w:=by
 intro s σ I a w hr;have hlt:L<E.w0.heap.size:=(qX.1 hL).1;have hnb:¬E.uM L:=by rw[hbor];exact P0 hrm hL
 refine⟨fun b x h=>hr.keep b x (by rw[hs0];exact h),(hr.frame L hlt hnb).trans hL,fun h=>?_⟩;rcases hr.lQ L h with g|g|g
 ·rw[hI0]at g;exact hI g
 ·exact hnb g
 ·omega
def DQ (m0 m1:List (Nat×bC)):aP:=⟨.d (.v (.bool true)),[],m0.map fun p=>(p.1,bE m1 p.1)⟩
theorem Be {m0:List (Nat×bC)}{f:Nat->Option bC}(b:Nat):wrote (m0.map fun p=>(p.1,f p.1)) b=if(bE m0 b).isSome then some (f b)else none:=by
 induction m0 with
 |nil=>simp[wrote,bE]
 |cons p m ih=>
  obtain⟨c,k⟩:=p;simp only[iU,wrote,bE];by_cases h:c=b
  ·subst h;simp
  ·simp only[aH h];exact ih
theorem Uc {m0 m1:List (Nat×bC)}{mem:Mem}(hk:∀b k,bE m0 b=some k->mem b=some k):(DQ m0 m1).mr mem=bE m0:=by
 funext b
 simp only[aP.mr,DQ,Be];cases h:bE m0 b with
 |none=>simp
 |some k=>simpa using hk b k h
theorem Ub {m0 m1:List (Nat×bC)}{mem:Mem}(hs:∀b k,bE m1 b=some k->(bE m0 b).isSome=true):(DQ m0 m1).mw mem=bE m1:=by
 funext b
 simp only[aP.mw,DQ,Be];cases h:bE m0 b with
 |none=>
  simp only[Option.isSome_none,oM,gY,DJ];cases h1:bE m1 b with
  |none=>rfl
  |some k=>have:=hs b k h1;rw[h]at this;cases this
 |some k=>simp
theorem fK.zek {σ:Names}{I I':Nat->Prop}{w w':World}{m0 m1:List (Nat×bC)}{nm:Nat}(hid:∀p∈m1,p.2.cF id=p.2)(h0:∀p∈m0,p.1<64)(h1:∀p∈m1,p.1<64)
  (hs:∀b k,bE m1 b=some k->(bE m0 b).isSome=true)
  (hp:fK (fun b=>if b<64 then σ b else none) I w (bE m0) 64 (fun b=>if b<64 then σ b else none) I' w' (bE m1)):fK σ I w (bE m0) nm σ I' w' (bE m1):=by
 have low:∀b,b<64->∀x,σ b=some x->(fun b=>if b<64 then σ b else none) b=some x:=fun b hb x hx=>by simp only[aU hb];exact hx
 have up:∀b x,(fun b=>if b<64 then σ b else none) b=some x->σ b=some x:=fun b x hx=>by
  simp only at hx;split at hx
  ·exact hx
  ·cases hx
 have own:∀(m:List (Nat×bC)),(∀p∈m,p.1<64)->∀n,fU σ (bE m) n↔fU (fun b=>if b<64 then σ b else none) (bE m) n:=fun m hm n=>
  ⟨fun⟨b,k,x,a1,a2,a3⟩=>⟨b,k,x,a1,low b (hm _ (nV a1)) x a2,a3⟩,fun⟨b,k,x,a1,a2,a3⟩=>⟨b,k,x,a1,up b x a2,a3⟩⟩
 refine⟨hp.os,hp.tape,hp.output,hp.size,fun _ _ h=>h,fun b h1 h2=>absurd h1 h2,hp.vI,hp.ib,fun n h=>?_,fun n a1 a2=>hp.frame n a1 (fun h=>a2 ((own m0 h0 n).2 h)),⟨fun b k hb'=>?_,fun b b' k k' u u' n q1 q2 q3 q4 q5 q6=>?_⟩,fun b k hb'=>?_,fun n h=>?_⟩
 ·rcases hp.lQ n h with g|g|g
  ·exact .inl g
  ·exact .inr (.inl g)
  ·exact .inr (.inr ((own m0 h0 n).2 g))
 ·obtain⟨u,g1,g2,g3⟩:=hp.mem.bQ b k hb';exact⟨u,up b u g1,g2.mono (fun _ _=>rfl) (fun _ h=>h) up (fun _ _=>rfl),g3⟩
 ·exact hp.mem.apart b b' k k' u u' n q1 q2 (low b (h1 _ (nV q1)) u q3) (low b' (h1 _ (nV q2)) u' q4) q5 q6
 ·left;intro h;have:=hs b k hb';rw[h]at this;cases this
 ·rcases hp.kX n ((own m1 h1 n).1 h)with g|g
  ·exact .inl ((own m0 h0 n).2 g)
  ·exact .inr g
theorem RM.Wt {σ:Names}{I:Nat->Prop}{w:World}{m0:List (Nat×bC)}(h0:∀p∈m0,p.1<64/\aW (fun b=>decide (b<64)) p.2=true/\p.2.cF id=p.2)(h:RM σ I w (bE m0)):RM (fun b=>if b<64 then σ b else none) I w (bE m0):=by
 have low:∀b,b<64->∀x,σ b=some x->(fun b=>if b<64 then σ b else none) b=some x:=fun b hb x hx=>by simp only[aU hb];exact hx
 have up:∀b x,(fun b=>if b<64 then σ b else none) b=some x->σ b=some x:=fun b x hx=>by
  simp only at hx;split at hx
  ·exact hx
  ·cases hx
 refine⟨fun b k hb=>?_,fun b b' k k' u u' n q1 q2 q3 q4 q5 q6=>h.apart b b' k k' u u' n q1 q2 (up b u q3) (up b' u' q4) q5 q6⟩;obtain⟨u,g1,g2,g3⟩:=h.bQ b k hb;obtain⟨p1,p2,p3⟩:=h0 _ (nV hb);refine⟨u,low b p1 u g1,?_,g3⟩;refine J8 (σ:=σ) (g:=id) (p:=fun b=>decide (b<64)) (fun b hb x hx=>low b (by simpa using hb) x hx) ?_ p2;simp only at p3;rw[p3];exact g2
theorem CI.yield {P:Program}{nt ntA L dp:Nat}{r:Loop}{tmA tmB:List (Nat×AV)}{m0 m1 mB:List (Nat×bC)}{nxB:Nat}{s0:Names}{R:Exit->X->Prop}{ops:Array Oper}{o:Oper}{rest:List Oper}{i:Nat}{ft:List (List Nat×List Nat)}{draw:Bool}{k:List It}{x:X}{c:Call}{q:Nat}
  (hm:P.follows .mixedOrders=true) (hrs:r.state=.ready) (hrp:r.pending=none) (hsz:r.tmps.size=ntA)
  (hA:CI (some L) (dp-1) (fun _ _ _=>True) P ntA (fun e x=>e=.normal/\AI.Sub x tmB mB nxB []) [.code r.assign] ⟨tmA,m0.map (fun p=>(p.1,some p.2)),64⟩)
  (hB:CI (some L) (dp-1) (fun _ _ _=>True) P ntA (PC m0 m1) [.code r.body] ⟨tmB,mB.map (fun p=>(p.1,some p.2)),nxB⟩)
  (hdst:mM nt o.dst=true) (hg:o.guard=none\/∃g wa,o.guard=some (g,wa)/\pJ ops g (dB x.tm)=some wa)
  (ho:o.op=.call c) (hc:c.callee=.value (.tmp q)) (hq:dB x.tm q=.d (.fn (.yield L) [] [])) (hps:c.args.size=r.params.size)
  (hT:∀(σ:Names) (I:Nat->Prop) (w:World) (vs:List Value),(∀b x,s0 b=some x->b<64->σ b=some x)->vs.length=c.args.size->(∀(i:Nat) y v,(c.args.toList.map (ev (dB x.tm)))[i]? =some y->vs[i]? =some v->fX (fun b=>decide (b<64)) y=true->y.cF id=y->RV σ I w y v)->
    ∀t,RV σ I w (dB tmA t) (((r.params.zip vs.toArray).foldl (fun tmps (t,a)=>tmps.setIfInBounds t a) r.tmps).getD t undef))
  (hp0:∀p∈m0,p.1<64/\aW (fun b=>decide (b<64)) p.2=true/\p.2.cF id=p.2) (hp1:∀p∈m1,p.1<64/\p.2.cF id=p.2)
  (hsub:∀p∈m1,(bE m0 p.1).isSome=true) (hk:∀p∈m0,dM x.mm p.1=some p.2)
  (h:CI none dp (KA s0 L r) P nt R (.ops ops rest (i+1) (ft++[(DQ m0 m1).qP]) draw::k) (x.app o.dst (DQ m0 m1))):CI none dp (KA s0 L r) P nt R (.ops ops (o::rest) i ft draw::k) x:=by
 refine .op (DQ m0 m1) hdst hg ?_ h;have hs:∀b k,bE m1 b=some k->(bE m0 b).isSome=true:=fun b k h=>hsub _ (nV h);have hk':∀b k,bE m0 b=some k->dM x.mm b=some k:=fun b k h=>hk _ (nV h);rw[Uc hk',Ub hs];intro a w σ I hJ hib hv hrm hfr next Q hnx;obtain⟨hkeep,hL,hI⟩:=hJ;have harg:∀y∈c.args.toList,RV σ I w (ev (dB x.tm) y) (a.eval y):=fun y hy=>dZ fun s e=>hv s (by subst e;simp[ho,Op.operands,Call.operands,hc];exact .inr (by simpa using hy))
 have hf:a.tmps.getD q undef=.func (.yield L) #[] #[]:=by
  have:=hv q (by simp[ho,Op.operands,Call.operands,hc]);rw[hq]at this;generalize a.tmps.getD q undef=z at this;cases this with
  |d h=>cases h with
   | @fn f first captured xs ys hx hy h1 h2=>
     have e1:xs=[]:=jL (by simpa using hx);have e2:ys=[]:=jL (by simpa using hy);subst e1 e2;rfl
 let vs:=c.args.toList.map a.eval
 have hvs:(c.args.map a.eval)=vs.toArray:=by apply HN;simp[vs]
 have hrun:(execOp a.eval o).run P w=.ok (.round L r.fn ((r.params.zip vs.toArray).foldl (fun tmps (t,a)=>tmps.setIfInBounds t a) r.tmps) r.assign r.body) w:=by
  have e0:a.eval (.tmp q)=.func (.yield L) #[] #[]:=hf;have e4:=run_yield (P:=P) (w:=w) (args:=vs.toArray) hL (by simp[vs,hps]);have e5:(#[]:Array Value)++c.args.map a.eval++#[]=vs.toArray:=by rw[hvs];simp
  rw[<-e4];simp[execOp,ho,resolve,hc,e0,Deferred.ofValue,invoke,hvs]
 refine⟨fun _ _=>trivial,?_⟩;show Oper.uponIn (FW none) dp P o a next Q ((execOp a.eval o).run P w);rw[hrun,Oper.uponIn_round];refine⟨by simp[FW,Fence.wide],?_⟩;have hlen:vs.length=c.args.size:=by simp[vs]
 let σ1:Names:=fun b=>if b<64 then σ b else none
 have hfold:∀(ps:List (Nat×Value)) (T:Array Value),(ps.foldl (fun tmps (p:Nat×Value)=>tmps.setIfInBounds p.1 p.2) T).size=T.size:=by
  intro ps;induction ps with
  |nil=>intro T;rfl
  |cons p ps ih=>intro T;rw[rR,ih];simp
 have hTsz:((r.params.zip vs.toArray).foldl (fun tmps (t,a)=>tmps.setIfInBounds t a) r.tmps).size=ntA:=by
  rw[<-hsz,<-Array.foldl_toList];exact hfold _ _
 have hro:=zb3 (P:=P) (nt:=ntA) (dp:=dp-1) hm hrs hrp hA hB (T:=(r.params.zip vs.toArray).foldl (fun tmps (t,a)=>tmps.setIfInBounds t a) r.tmps) (w:=w) (σ:=σ1) (I:=I) hib hTsz
  (hT σ1 I w vs (fun b y h1 h2=>by simp only[σ1,aU h2];exact hkeep b y h1) hlen (fun i y v h1 h2 h3 h4=>by
    simp only[iJ,vs]at h1 h2;obtain⟨z,hz,rfl⟩:=qA.1 h1;rw[hz]at h2;simp at h2;subst h2;refine NW (σ:=σ) (g:=id) (p:=fun b=>decide (b<64)) (fun b hb x hx=>by simp only[σ1];rw[aU (by simpa using hb)];exact hx) (harg z (eH hz)) h4.symm h3))
  (RM.Wt hp0 hrm) (fun b hb=>by simp only[σ1];rw[aH (by omega)]) hL hI
 refine RoundIn.mono hro ?_;rintro e w' ⟨rfl,I',hp⟩;refine hnx _ σ I' w' ?_ (.d (.v _));exact fK.zek (fun p hp=>(hp1 p hp).2) (fun p hp=>(hp0 p hp).1) (fun p hp=>(hp1 p hp).1) hs hp
theorem UO {E:Ctx}{P:Program}{nt dp:Nat}{c d:Code}{x:X}{tm:List (Nat×AV)}{m:List (Nat×bC)}{nx:Nat}{gv:List Nat}(hm:P.follows .mixedOrders=true)(hP:E.P=P)(hn:E.nt=nt)
  (hc:CI none dp (fun _ _ _=>True) P nt (fun e y=>e=.normal/\AI.Sub y tm m nx gv) [.code c] x) {Q:Exit->Act->World->Prop} {a:Act} {w:World} (hr:Rel E x.den a w)
  (h:∀a' w',Rel E (X.den ⟨tm,m.map (fun p=>(p.1,some p.2)),nx⟩) a' w'->d.wpIn (FW none) dp P Q a' w'):(c.seq d).wpIn (FW none) dp P Q a w:=by
 refine wpIn_seq ?_;subst hP;have hw:=(BL hm hc E rfl hn (fun _ _ _ _ _ _=>trivial)).1 rfl _ w hr;simp only[eP]at hw;refine BO hw (fun e a1 w1 hq=>?_);obtain⟨y,hy,rfl,hsub⟩:tL E (fun e y=>e=.normal/\AI.Sub y tm m nx gv) e a1 w1:=by
  cases e<;>simpa[eP]using hq
 exact h a1 w1 (Rel.sub hsub hy)
end Go.AI
section
namespace Go.AI
section
variable {bn : List Nat} {nm : Nat} {args : List AV} {mr m m' : List (Nat × bC)} {res : AV} {mem : Mem} {G : (Nat -> Prop) -> World -> Prop}
theorem zd7 {dp:Nat}{P:Program}{o:Oper}{c:Call}{fo:Operand}(ho:o.op=.call c)(hc:c.callee=.value fo)(tm:Nat->AV)(mem:Mem)(nm:Nat){f:FuncId}{first captured:List AV}
  (hf:sJ (ev tm fo)=some (f,first,captured)) (hen:Enters P f) (hct:cO G P f args mr m res m') (ha:eJ.leL (first++c.args.toList.map (ev tm)++captured) (args.map (AV.cF (eO bn nm)))) (hn:z8 bn args mr m res m')
  (hk:∀p∈mr++m,mem (eO bn nm p.1)=some (p.2.cF (eO bn nm))):
  FB none dp (JG G) P o tm ((kL bn nm mr m res m').mr mem) nm (kL bn nm mr m res m').res ((kL bn nm mr m res m').mw mem):=by
 intro a w σ I hG h1 h2 h3 h4 next Q hnx;refine UM (by simp[xW,ho]) ?_;obtain⟨vs,hrun,hcall⟩:=Z3 ho hc hf hen hct ha hn hk hG h1 h2 h3 h4;simp only[Oper.wp,hrun,Oper.upon];refine hcall.mono fun e w' ⟨v,σ',I',he,hp,hv⟩=>?_;subst he;exact hnx v σ' I' w' hp hv
end
theorem CI.ziR {G:(Nat->Prop)->World->Prop}{dp:Nat}{P:Program}{nt:Nat}{R:Exit->X->Prop}{ops:Array Oper}{o:Oper}{rest:List Oper}{i:Nat}{ft:List (List Nat×List Nat)}{draw:Bool}{k:List It}{x:X}{c:Call}{fo:Operand}{f:FuncId}{first captured:List AV}{args:List AV}{mr m m':List (Nat×bC)}{res:AV}(bn:List Nat)
  (hct:cO G P f args mr m res m') (hen:Enters P f) (ho:o.op=.call c) (hc:c.callee=.value fo) (hdst:mM nt o.dst=true) (hg:o.guard=none\/∃g wa,o.guard=some (g,wa)/\pJ ops g (dB x.tm)=some wa)
  (hf:sJ (ev (dB x.tm) fo)=some (f,first,captured)) (ha:eJ.leL (first++c.args.toList.map (ev (dB x.tm))++captured) (args.map (AV.cF (eO bn (x.nx+64*i))))) (hn:z8 bn args mr m res m')
  (hk:∀p∈mr++m,dM x.mm (eO bn (x.nx+64*i) p.1)=some (p.2.cF (eO bn (x.nx+64*i))))
  (h:CI none dp (JG G) P nt R (.ops ops rest (i+1) (ft++[(kL bn (x.nx+64*i) mr m res m').qP]) draw::k) (x.app o.dst (kL bn (x.nx+64*i) mr m res m'))):CI none dp (JG G) P nt R (.ops ops (o::rest) i ft draw::k) x:=
 .op _ hdst hg (zd7 ho hc _ _ _ hf hen hct ha hn hk) h
section
variable {ro : Option Nat} {dp : Nat} {J : Names -> (Nat -> Prop) -> World -> Prop}
end
end Go.AI
open Go.RowKit
namespace Go.AI
theorem cO.Ka {G:(Nat->Prop)->World->Prop}{P:Program}{f:FuncId}{args:List AV}{mr:List (Nat×bC)}{r:Value}
  (h:∀(σ:Names) (I:Nat->Prop) (w:World) (vs:List Value),G I w->(∀n,I n->n<w.heap.size)->vs.length=args.length->(∀(i:Nat) c x,args[i]? =some c->vs[i]? =some x->RV σ I w c x)->RM σ I w (bE mr)->
    Calls P f vs.toArray w fun e w'=>e=.returned r/\Below w.heap.size w w'/\w.drawn<=w'.drawn):cO G P f args mr [] (.d (.v r)) []:=by
 intro σ I w vs hG hI hl ha hm hn;rw[KW]at hm⊢;refine(h σ I w vs hG hI hl ha hm).mono fun e w' ⟨h1,hb,hd⟩=>⟨r,σ,I,h1,?_,.d (.v r)⟩;refine⟨hb.os,hb.tape,⟨hb.output,hd⟩,hb.size,fun _ _ h=>h,fun _ h h'=>absurd h h',fun _ h=>h,fun n hn=>BQ (hI n hn) hb.size,fun _ h=>.inl h,fun n hn _=>hb.block n hn,?_,fun b k h=>.inl (by rw[h];simp),fun n ho=>.inl ho⟩;refine⟨fun b k hb'=>?_,hm.apart⟩;obtain⟨x,h1,h2,h3⟩:=hm.bQ b k hb';exact⟨x,h1,h2.mono (fun n hn=>hb.block n (hI n hn)) (fun _ h=>h) (fun _ _ h=>h) (fun n hn=>hb.block n (h3 n hn).1),fun n hn=>⟨BQ (h3 n hn).1 hb.size,(h3 n hn).2⟩⟩
end Go.AI
namespace Go.AI
end Go.AI
namespace Go.AI
theorem CI.L1 {ro:Option Nat}{dp:Nat}{J:Names->(Nat->Prop)->World->Prop}{P:Program}{nt:Nat}{R:Exit->X->Prop}{ops:Array Oper}{o:Oper}{rest:List Oper}{i:Nat}{ft:List (List Nat×List Nat)}{draw:Bool}{k:List It}{x:X}(gv:List Nat)(st n:Nat)(hk:clean k=true)(hdst:mM nt o.dst=true)(hg:o.guard=none\/∃g wa,o.guard=some (g,wa)/\pJ ops g (dB x.tm)=some wa)
  (hgv:∀b,b∈gv->(dM x.mm b).isSome=true)
  (h:match xA P o (zO gv x) (pX gv (dM x.mm)) (x.nx+64*i)with
    |some (sc,e)=>sc/\AI.cJ ro dp J P nt R st n (.ops ops rest (i+1) (ft++[(GX e gv).qP]) draw::k) (x.app o.dst (GX e gv))
    |none=>False):CI ro dp J P nt R (.ops ops (o::rest) i ft draw::k) x:=by
 split at h
 ·rename_i sc e hr;exact .op _ hdst hg (bT.qC (Tq hr) (bT.YZ gv hgv (Tp hr h.1))) (.CD st n hk h.2)
 ·exact h.elim
end Go.AI
end
namespace Go.AI
theorem cB.j3 {P:Program}{f:FuncId}{args:List AV}{first:List D}{res:AV}(h:Ct P f (first.map .d++args) [] [] res [])(he:Enters P f)(h1:fX.mH (fun b=>decide (b<0)) (first.map .d++args)=true)(h2:fX (fD 0) res=true):cB P (.d (.fn (.func f) first [])) args res:=
 ⟨f,first.map .d,[],rfl,he,by simpa using h,by simpa using h1,h2⟩
theorem Xu {σ:Names}{I:Nat->Prop}{w:World}{sz i l:Nat}{es:List (List D)}{T:TypeId}{y v:Value}(hb0:RB σ I w (.grow sz es T) y)(hs:NU sz y i l v)(hi:i=0)(hl:l<=es.length):
  (∀σ':Names,RB σ' I w (.grow sz (es.take l) T) v)/\v.oneCell'=true/\∀n,hb v=some n->hb y=some n:=by
 subst hi;cases hs with
 |nil=>exact⟨fun _=>by simpa using RB.none,rfl,fun n h=>h⟩
 |none a=>exact⟨fun _=>by simpa using RB.emp a,rfl,fun n h=>by simp[hb]at h⟩
 | @some n len cap _ _ c hc hlc=>
   cases hb0 with
   |emp=>
    have:c=0:=by omega
    subst this;have:l=0:=by omega
    subst this;exact⟨fun _=>by simpa using RB.emp _,rfl,fun n h=>by simp[hb]at h⟩
   | @grow _ _ _ _ _ arr hw h1 hcap hmax hsz hr=>
     refine⟨fun σ'=>?_,rfl,fun m h=>?_⟩
     ·have e:(es.take l).length=l:=by rw[yV];omega
      have:=RB.grow (σ:=σ') (I:=I) (w:=w) (sz:=sz) (es:=es.take l) (T:=T) (n:=n) (cap:=c) (arr:=arr) hw (fV (pB _ (by omega)) h1) (by rw[e];exact hlc) (by omega) (fun e he=>hsz e (rP he))
       (fun i e j c h1 h2=>hr i e j c (by rw[HK]at h1;split at h1<;>simp_all) h2)
      rw[e]at this;simpa using this
     ·cases c with
      |zero=>simp[hb]at h
      |succ c=>
       cases cap with
       |zero=>omega
       |succ cap=>simpa[hb]using h
theorem Ct.OM {P:Program}{f:FuncId}{args:List AV}{k0:bC}{sz i:Nat}{es:List (List D)}{T:TypeId}{r:AV}(hr:r=.own 0/\i=es.length\/r=.sl 0 sz 0 i)(hi:i<=es.length)
  (h:Ct P f args [] [(0,k0)] r [(0,.grow sz es T)]):Ct P f args [] [(0,k0)] (.own 64) [(64,.grow sz (es.take i) T)]:=by
 intro σ I w vs hI hl ha hm h64;refine(h σ I w vs hI hl ha hm h64).mono ?_;rintro e w' ⟨v,σ',I',rfl,hp,hv⟩;obtain⟨y,hy,hb0,hbn⟩:=hp.mem.bQ 0 _ rfl;have key:(∀σ':Names,RB σ' I' w' (.grow sz (es.take i) T) v)/\v.oneCell'=true/\∀n,hb v=some n->hb y=some n:=by
  rcases hr with⟨rfl,rfl⟩|rfl
  ·cases hv with
   |own h1 h2=>
    rw[hy]at h1;cases h1;refine⟨fun σ''=>?_,h2,fun n h=>h⟩;rw[fA];cases hb0 with
    |none=>exact .none
    |emp a=>exact .emp a
    |grow hw a1 a2 a3 a4 a5=>exact .grow hw a1 a2 a3 a4 a5
  ·cases hv with
   |sl h1 h2=>
    rw[hy]at h1;cases h1;exact Xu hb0 h2 rfl hi
 obtain⟨k1,k2,k3⟩:=key
 let σ'':Names:=fun b=>if b=64 then some v else if b<64 then σ' b else none
 have e64:σ'' 64=some v:=rfl;refine⟨v,σ'',I',rfl,⟨hp.os,hp.tape,hp.output,hp.size,?_,?_,hp.vI,hp.ib,hp.lQ,hp.frame,⟨?_,?_⟩,?_,?_⟩,.own e64 k2⟩
 ·intro b x hb;have:b<64:=by
   rcases vX b 64 with h|h
   ·exact h
   ·rw[h64 b h]at hb;cases hb
  have hne:b≠64:=by omega
  simp only[σ'',aH hne,aU this];exact hp.names b x hb
 ·intro b hb hn;by_cases h:b=64
  ·subst h;exact⟨cM _,by omega⟩
  ·by_cases h':b<64
   ·simp only[σ'',aH h,aU h']at hn;exact hp.new b hb hn
   ·simp only[σ'',aH h,aH h',ne_eq,T5]at hn
 ·intro b k hk;by_cases h:b=64
  ·subst h;simp[bE]at hk;subst hk;exact⟨v,e64,k1 _,fun n hn=>hbn n (k3 n hn)⟩
  ·simp[bE,h]at hk;exfalso;omega
 ·intro b b' k k' x x' n h1 h2 h3 h4 h5 h6;have hb1:b=64:=by
   by_cases h:b=64
   ·exact h
   ·simp[bE,h]at h1;exfalso;omega
  have hb2:b'=64:=by
   by_cases h:b'=64
   ·exact h
   ·simp[bE,h]at h2;exfalso;omega
  rw[hb1,hb2]
 ·intro b k hk;by_cases h:b=64
  ·exact Or.inr ⟨by omega,by omega⟩
  ·simp[bE,h]at hk;exfalso;omega
 ·rintro n ⟨b,k,x,h1,h2,h3⟩;have hb1:b=64:=by
   by_cases h:b=64
   ·exact h
   ·simp[bE,h]at h1;exfalso;omega
  subst hb1;rw[e64]at h2;cases h2;exact hp.kX n ⟨0,_,y,rfl,hy,k3 n h3⟩
theorem CI.zbf {dp:Nat}{J:Names->(Nat->Prop)->World->Prop}{P:Program}{nt:Nat}{R:Exit->X->Prop}(hm:P.follows .mixedOrders=true)(hp:Plain R){c d:Code}{k:List It}{x:X}(hk:clean k=true)(h:CI none dp J P nt R (.code c:: .code d::k) x):CI none dp J P nt R (.code (.seq c (.scope d))::k) x:=by
 refine CI.Rf hk fun E hP hn hJ a w hr=>?_;have h1:=CI.wp hm h (by simpa[clean,kJ]using hk) E hP hn hJ a w hr;refine wp_seq (wp_mono h1 (fun e a w h=>?_));cases e<;>simp only[eP,Exit.then]at h⊢<;>try exact h
 refine wp_scope_straight (wp_mono ((wpIn_wide (n:=dp)).1 h) (fun e a w h=>?_));cases e<;>simp only[Exit.noGoto]<;>first|exact h|exact absurd h (TO (.inl ⟨_,rfl⟩) (hp.1 _) k)
abbrev EK (v:Value):List PanicEntry:=[{v:=v,recovered:=false}]
def tR (P:Program)(f:FuncId)(args:List AV)(mr m:List (Nat×bC))(v:Value)(m':List (Nat×bC)):Prop:=NZ (fun _ _=>True) (fun _=>.panicked (EK v)) P f args mr m .any m'
def Ir (v:Value)(m m':List (Nat×bC)):Exit->X->Prop:=fun e x=>e=.panic (EK v)/\BJ (dM x.mm) (.d (.v undef)) m (.d (.v undef)) m' []
section
variable {P : Program} {nt : Nat} {R : Exit -> X -> Prop} {ops : Array Oper} {o : Oper} {rest : List Oper} {i : Nat} {ft : List (List Nat × List Nat)} {k : List It} {x : X} {c : Call} {fo : Operand} {f : FuncId} {fs cap args : List AV} {mr m m' : List (Nat × bC)} {fn : Func} {cd : Code} {v : Value}
theorem tR.B (hf:P.funcs[f]? =some fn)(hm:P.follows .mixedOrders=true)(st n:Nat)(h:AI.cJ none 0 J0 P fn.ntmps (Ir v (mr++m) (mr++m')) st n [.code cd] ⟨uG 0 args,(mr++m).map (fun p=>(p.1,some p.2)),64⟩)(hb:fn.body=some cd:=by rfl)(hn:args.length<=fn.ntmps:=by simp):tR P f args mr m v m':=by
 intro σ I w vs _ hib hl hv hrm hfree;refine calls_of_wp hf hb ?_
 let E:Ctx:={P:=P,w0:=w,uM:=fU σ (bE (mr++m)),I0:=I,nt:=fn.ntmps,s0:=σ}
 refine wp_mono (CI.wp hm (.run st n rfl h) rfl E rfl rfl (fun _ _ _ _ _ _=>trivial) _ w (Gy (E:=E) rfl rfl rfl rfl hn hib hl hv hrm hfree)) (fun e a w' hq=>?_);obtain⟨x,⟨σf,If,hr⟩,rfl,hfin⟩:tL E (Ir v (mr++m) (mr++m')) e a w':=by
  cases e<;>simpa[eP]using hq
 obtain⟨σ',I',hp,hrv⟩:=Ht (E:=E) rfl rfl rfl rfl hrm hfree hr hfin (.d (.v undef));exact⟨hr.yN,undef,σ',I',rfl,hp,.any _⟩
theorem CI.up {ro:Option Nat}{dp:Nat}{J:Names->(Nat->Prop)->World->Prop}(bn:List Nat)(hct:tR P f args mr m v m')(hen:Enters P f)(h:R (.panic (EK v)) ⟨x.tm,(kL bn (x.nx+64*i) mr m .any m').wr++x.mm,x.nx+64*(i+1)⟩)
  (ho:o.op=.call c:=by rfl) (hc:c.callee=.value fo:=by rfl) (hg:o.guard=none:=by rfl) (hf:sJ (ev (dB x.tm) fo)=some (f,fs,cap):=by rfl)
  (ha:eJ.leL (fs++c.args.toList.map (ev (dB x.tm))++cap) (args.map (AV.cF (eO bn (x.nx+64*i)))):=by simp) (hn:z8 bn args mr m .any m':=by constructor<;>simp[fD])
  (hk:∀p∈mr++m,dM x.mm (eO bn (x.nx+64*i) p.1)=some (p.2.cF (eO bn (x.nx+64*i))):=by simp):CI ro dp J P nt R (.ops ops (o::rest) i ft false::k) x:=by
 refine .Ja _ (EK v) hg (by simp[xW,ho]) (fun E s a w hP hn' ht hm' hfr hr next Q hQ=>?_) h;obtain⟨σ,I,hr⟩:=hr;subst hP;obtain⟨vs,hrun,hcall⟩:=Z3 (a:=a) (w:=w) (nm:=x.nx+64*i) ho hc (tm:=s.tm) (mem:=s.mm) (by rw[ht];exact hf) hen hct (by rw[ht];exact ha) hn (by rw[hm'];exact hk) trivial hr.ib (fun t _=>hr.tm t) (hr.mm.sub aP.XK) (fun b hb=>hr.free b (hfr b hb.1));simp only[Oper.wp,hrun,Oper.upon];refine hcall.mono fun e w' ⟨v',σ',I',he,hp,hv⟩=>?_;subst he;have h':=hr.step (dst:=none) aP.XK hp hv (fun _ h=>by cases h);rw[<-S.Af]at h';refine hQ a w' (Rel.fr ⟨σ',I',h'⟩ ?_ ?_ fun b hb=>?_)
 ·funext t;simp[X.den,S.app,ht]
 ·funext b;simp only[X.den,S.app,Mt,hm']
 ·have hb':x.nx+64*(i+1)<=b:=hb;exact⟨hfr b (by omega),fun hf=>by have:=hf.2;omega⟩
end
theorem RM.Lr {σ:Names}{I:Nat->Prop}{w w':World}{m:Mem}(hm:RM σ I w m)(hs:w.heap.size<=w'.heap.size)(h:∀n,I n\/fU σ m n->w'.heap[n]? =w.heap[n]?):RM σ I w' m:=by
 refine⟨fun b k hb'=>?_,hm.apart⟩;obtain⟨x,h1,h2,h3⟩:=hm.bQ b k hb';exact⟨x,h1,h2.mono (fun n hn=>h n (.inl hn)) (fun _ h=>h) (fun _ _ h=>h) (fun n hn=>h n (.inr ⟨b,k,x,hb',h1,hn⟩)),fun n hn=>⟨BQ (h3 n hn).1 hs,(h3 n hn).2⟩⟩
theorem Em (w:World)(a:Addr)(v:Value){n:Nat}(h:n≠a.block):(w.setCell a v).heap[n]? =w.heap[n]? :=by
 simp only[World.setCell,UI];rw[aH (fun e=>h e.symm)]
theorem Hu {σ σ':Names}{I I':Nat->Prop}{w w':World}{m m':Mem}{x v:Value}{T:TypeId}(hrm:RM σ I w m)(hib:∀n,I n->n<w.heap.size)(hp:fK σ I (w.alloc (.cells #[x] T)) m 64 σ' I' w' m'):
  fK σ I w m 64 σ' I' (w'.setCell ⟨w.heap.size,0,none⟩ v) m'/\w'.cell? ⟨w.heap.size,0,none⟩=some x/\w'.frozen? ⟨w.heap.size,0,none⟩=false:=by
 have hsz:(w.alloc (.cells #[x] T)).heap.size=w.heap.size+1:=by simp
 have own:¬fU σ m w.heap.size:=by
  rintro⟨b,k,y,h1,h2,h3⟩;obtain⟨y',h4,_,h5⟩:=hrm.bQ b k h1;rw[h2]at h4;cases h4;have:=(h5 _ h3).1;omega
 have hI:¬I' w.heap.size:=fun h=>by
  rcases hp.lQ _ h with h|h|h
  ·have:=hib _ h;omega
  ·omega
  ·exact own h
 have own':¬fU σ' m' w.heap.size:=fun h=>by
  rcases hp.kX _ h with h|h
  ·exact own h
  ·omega
 have hh:w'.heap[w.heap.size]? =some (.cells #[x] T (0,0)):=by
  rw[hp.frame _ (by omega) own];exact FD w _
 have s1:(w'.setCell ⟨w.heap.size,0,none⟩ v).heap.size=w'.heap.size:=by simp[World.setCell]
 have s2:=hp.size;refine⟨⟨hp.os,hp.tape,⟨hp.output.eq,hp.output.drawn⟩,by omega,hp.names,hp.new,hp.vI,fun n h=>by rw[s1];exact hp.ib n h,fun n h=>?_,fun n h1 h2=>?_,?_,hp.wW,fun n h=>?_⟩,by simp[World.cell?,hh],by simp[World.frozen?,hh]⟩
 ·rcases hp.lQ n h with h|h|h
  ·exact .inl h
  ·exact .inr (.inl (by omega))
  ·exact .inr (.inr h)
 ·rw[Em _ _ _ (by show n≠w.heap.size;omega),hp.frame n (by omega) h2];exact xE w _ h1
 ·refine hp.mem.Lr (by omega) fun n h=>Em _ _ _ ?_;rintro rfl;rcases h with h|h
  ·exact hI h
  ·exact own' h
 ·rcases hp.kX n h with h|h
  ·exact .inl h
  ·exact .inr (by omega)
theorem nT {b:Bool}:((!b)=true)=(b=false):=by cases b<;>simp
theorem nF {b:Bool}:((!b)=false)=(b=true):=by cases b<;>simp
theorem dT {p:Prop} [Decidable p]:(decide p=true)=p:=cP
theorem dF {p:Prop} [Decidable p]:(decide p=false)=¬p:=propext uT
theorem dL {α:Type}{l:List α}{k:Nat}(h:k<l.length)(hw:(k:Int)+1<=9223372036854775807:=by omega):∃x,l[k]=x/\l[k]? =some x/\x∈l/\l.take (k+1)=l.take k++[x]/\l.drop k=x::l.drop (k+1)/\IntKind.wrap .i64 ((k:Int)+1)=k+1:=
 ⟨_,rfl,cI h,lU h,by rw[nZ,cI h];rfl,KV h,wrap_i64 (by omega) hw⟩
theorem mH {α:Type}{l:List α}{k:Nat}(h:k<l.length):∃x,l[k]=x/\l[k]? =some x/\x∈l/\l.take (k+1)=l.take k++[x]/\l.drop k=x::l.drop (k+1):=
 ⟨_,rfl,cI h,lU h,by rw[nZ,cI h];rfl,KV h⟩
theorem wr {k:Nat}(h:(k:Int)+1<=9223372036854775807):IntKind.wrap .i64 ((k:Int)+1)=k+1:=wrap_i64 (by omega) h
abbrev Up {α:Type}(l:List α):Type:={k:Nat//k<=l.length}
section
variable {P : Program} {nt : Nat} {R : Exit -> X -> Prop} {ops : Array Oper} {o : Oper} {rest : List Oper} {i : Nat} {ft : List (List Nat × List Nat)} {d : Bool} {k : List It} {x : X} {c : Call} {fo : Operand} {f : FuncId} {fs cap args : List AV} {mr m m' : List (Nat × bC)} {res kf : AV} {fn : Func} {cd : Code}
theorem Ct.BS (hf:P.funcs[f]? =some fn)(hm:P.follows .mixedOrders=true)(st n:Nat)(h:AI.cJ none 0 J0 P fn.ntmps (wI P fn (mr++m) res (mr++m')) st n [.code cd] ⟨uG 0 args,(mr++m).map (fun p=>(p.1,some p.2)),64⟩)(hb:fn.body=some cd:=by rfl)(hn:args.length<=fn.ntmps:=by simp):Ct P f args mr m res m':=
 .EO hf hb hm hn (.run st n rfl h)
theorem Ct.B (hf:P.funcs[f]? =some fn)(h:AI.cJ none 0 J0 P fn.ntmps (wI P fn (mr++m) res (mr++m')) 99 400 [.code cd] ⟨uG 0 args,(mr++m).map (fun p=>(p.1,some p.2)),64⟩)(hm:P.follows .mixedOrders=true:=by decide+kernel)(hb:fn.body=some cd:=by rfl)(hn:args.length<=fn.ntmps:=by simp):Ct P f args mr m res m':=
 .EO hf hb hm hn (.run 99 400 rfl h)
theorem cO.B {G:(Nat->Prop)->World->Prop}(hG:Ap G)(hf:P.funcs[f]? =some fn)(h:AI.cJ none 0 (JG G) P fn.ntmps (wI P fn (mr++m) res (mr++m')) 99 400 [.code cd] ⟨uG 0 args,(mr++m).map (fun p=>(p.1,some p.2)),64⟩)(hm:P.follows .mixedOrders=true:=by decide+kernel)(hb:fn.body=some cd:=by rfl)(hn:args.length<=fn.ntmps:=by simp):cO G P f args mr m res m':=
 .EO hG hf hb hm hn (.run 99 400 rfl h)
theorem aQ.V {ro:Option Nat}{dp:Nat}{J:Names->(Nat->Prop)->World->Prop}{α:Type}(l:List α)(tm:Up l->List (Nat×AV))(mm:Up l->List (Nat×bC))(nx:Nat)
  (step:∀i (h:i<=l.length) (B:X->Prop),(∀{x},(h:i<l.length)->Sub x (tm ⟨i+1,h⟩) (mm ⟨i+1,h⟩) nx []->B x)->AI.cJ ro dp J P nt R 99 400 (.code cd:: .stop B::k) ⟨tm ⟨i,h⟩,(mm ⟨i,h⟩).map (fun p=>(p.1,some p.2)),nx⟩)
  (h0:Sub x (tm ⟨0,DI _⟩) (mm ⟨0,DI _⟩) nx []:=by constructor<;>simp) (hm:P.follows .mixedOrders=true:=by decide+kernel) (hk:clean k=true:=by rfl):aQ ro dp J P nt R cd k x:=
 .inv hm hk tm mm nx (fun i=>l.length-i.1) _ [] h0 fun i B hB=>.run 99 400 (by exact hk) (step i.1 i.2 B fun h hs=>hB _ ⟨i.1+1,h⟩ [] hs (by simp only;omega))
theorem CI.n {ro:Option Nat}{dp:Nat}{J:Names->(Nat->Prop)->World->Prop}(h:AI.cJ ro dp J P nt R 99 400 k x)(hc:clean k=true:=by rfl):CI ro dp J P nt R k x:=.run 99 400 hc h
theorem aQ.un {dp:Nat}{J:Names->(Nat->Prop)->World->Prop}(h:AI.cJ none dp J P nt R 99 400 (.code cd:: .code (.loop cd)::k) x)(hm:P.follows .mixedOrders=true:=by decide+kernel)(hp:Plain R:=by exact Plain.wI _ _ _ _ _)(hk:clean k=true:=by rfl):aQ none dp J P nt R cd k x:=
 .Cb hm hp hk (.run 99 400 (by exact hk) h)
def Oz (P:Program)(f:FuncId):Bool:=match P.funcs[f]? with
 |some fn=>!(fn.name== "runtime.NumGoroutine")&& !fn.body.isNone
 |none=>false
theorem Enters.of {f:FuncId}(h:Oz P f=true):Enters P f:=by
 intro args w;unfold Oz at h;split at h
 ·rename_i fn e;simp only[bN,pN,beq_eq_false_iff_ne,ne_eq]at h;have h2:¬fn.body=none:=fun q=>by rw[q]at h;exact absurd h.2 (by simp)
  simp[callFunc,program,Sem.run,e,h.1,h2]
 ·cases h
section
variable {ro : Option Nat} {dp : Nat} {J : Names -> (Nat -> Prop) -> World -> Prop}
theorem CI.pS (hct:Ct P f args [] [] res [])(hen:Enters P f)(st:Nat)(h:AI.cJ ro dp J P nt R st 400 (.ops ops rest (i+1) (ft++[([],[])]) d::k) ⟨AT o.dst (res.cF (eO [] (x.nx+64*i))) x.tm,x.mm,x.nx⟩)
  (ho:o.op=.call c:=by rfl) (hc:c.callee=.value fo:=by rfl) (hd:mM nt o.dst=true:=by rfl) (hg:o.guard=none\/∃g wa,o.guard=some (g,wa)/\pJ ops g (dB x.tm)=some wa:=by first|exact .inl rfl|exact .inr ⟨_,_,rfl,by simp⟩|exact .inr ⟨_,_,rfl,by simp[*]⟩)
  (hf:sJ (ev (dB x.tm) fo)=some (f,fs,cap):=by rfl) (ha:eJ.leL (fs++c.args.toList.map (ev (dB x.tm))++cap) (args.map (AV.cF (eO [] (x.nx+64*i)))):=by simp) (hk:clean k=true:=by rfl)
  (h1:fX.mH (fun b=>decide (b<0)) args=true:=by rfl) (h2:fX (fD 0) res=true:=by rfl):CI ro dp J P nt R (.ops ops (o::rest) i ft d::k) x:=
 .Z2 hct hen ho hc hd hg hf ha h1 h2 (.CD st 400 hk h)
theorem CI.p (hct:Ct P f args [] [] res [])(h:AI.cJ ro dp J P nt R 99 400 (.ops ops rest (i+1) (ft++[([],[])]) d::k) ⟨AT o.dst (res.cF (eO [] (x.nx+64*i))) x.tm,x.mm,x.nx⟩)
  (hen:Enters P f:=by exact Enters.of (by decide+kernel)) (ho:o.op=.call c:=by rfl) (hc:c.callee=.value fo:=by rfl) (hd:mM nt o.dst=true:=by rfl) (hg:o.guard=none\/∃g wa,o.guard=some (g,wa)/\pJ ops g (dB x.tm)=some wa:=by first|exact .inl rfl|exact .inr ⟨_,_,rfl,by simp⟩|exact .inr ⟨_,_,rfl,by simp[*]⟩)
  (hf:sJ (ev (dB x.tm) fo)=some (f,fs,cap):=by rfl) (ha:eJ.leL (fs++c.args.toList.map (ev (dB x.tm))++cap) (args.map (AV.cF (eO [] (x.nx+64*i)))):=by simp) (hk:clean k=true:=by rfl)
  (h1:fX.mH (fun b=>decide (b<0)) args=true:=by rfl) (h2:fX (fD 0) res=true:=by rfl):CI ro dp J P nt R (.ops ops (o::rest) i ft d::k) x:=
 .Z2 hct hen ho hc hd hg hf ha h1 h2 (.CD 99 400 hk h)
theorem CI.cc (bn:List Nat)(hct:Ct P f args mr m res m')(h:AI.cJ ro dp J P nt R 99 400 (.ops ops rest (i+1) (ft++[(kL bn (x.nx+64*i) mr m res m').qP]) d::k) (x.app o.dst (kL bn (x.nx+64*i) mr m res m')))
  (hen:Enters P f:=by exact Enters.of (by decide+kernel)) (ho:o.op=.call c:=by rfl) (hc:c.callee=.value fo:=by rfl) (hd:mM nt o.dst=true:=by rfl) (hg:o.guard=none\/∃g wa,o.guard=some (g,wa)/\pJ ops g (dB x.tm)=some wa:=by first|exact .inl rfl|exact .inr ⟨_,_,rfl,by simp⟩|exact .inr ⟨_,_,rfl,by simp[*]⟩)
  (hf:sJ (ev (dB x.tm) fo)=some (f,fs,cap):=by rfl) (ha:eJ.leL (fs++c.args.toList.map (ev (dB x.tm))++cap) (args.map (AV.cF (eO bn (x.nx+64*i)))):=by simp) (hn:z8 bn args mr m res m':=by constructor<;>simp[fD])
  (hk:∀p∈mr++m,dM x.mm (eO bn (x.nx+64*i) p.1)=some (p.2.cF (eO bn (x.nx+64*i))):=by simp) (hl:clean k=true:=by rfl):CI ro dp J P nt R (.ops ops (o::rest) i ft d::k) x:=
 .Sg bn hct hen ho hc hd hg hf ha hn hk (.CD 99 400 hl h)
theorem CI.g (gv bn:List Nat)(hct:Ct P f args mr m res m')(h:AI.cJ ro dp J P nt R 99 400 (.ops ops rest (i+1) (ft++[(GX (kL bn (x.nx+64*i) mr m res m') gv).qP]) d::k) (x.app o.dst (GX (kL bn (x.nx+64*i) mr m res m') gv)))
  (hen:Enters P f:=by exact Enters.of (by decide+kernel)) (ho:o.op=.call c:=by rfl) (hc:c.callee=.value fo:=by rfl) (hd:mM nt o.dst=true:=by rfl) (hg:o.guard=none\/∃g wa,o.guard=some (g,wa)/\pJ ops g (dB x.tm)=some wa:=by first|exact .inl rfl|exact .inr ⟨_,_,rfl,by simp⟩|exact .inr ⟨_,_,rfl,by simp[*]⟩)
  (hf:sJ (ev (zO gv x) fo)=some (f,fs,cap):=by rfl) (ha:eJ.leL (fs++c.args.toList.map (ev (zO gv x))++cap) (args.map (AV.cF (eO bn (x.nx+64*i)))):=by simp[zO]) (hn:z8 bn args mr m res m':=by constructor<;>simp[fD])
  (hk:∀p∈mr++m,pX gv (dM x.mm) (eO bn (x.nx+64*i) p.1)=some (p.2.cF (eO bn (x.nx+64*i))):=by simp[pX]) (hv:∀b,b∈gv->(dM x.mm b).isSome=true:=by simp) (hl:clean k=true:=by rfl):CI ro dp J P nt R (.ops ops (o::rest) i ft d::k) x:=
 .ziS gv bn hct hen ho hc hd hg hf ha hn hk hv (.CD 99 400 hl h)
theorem CI.ff (h0:cB P kf args res)(ho:o.op=.call c)(hc:c.callee=.value fo)(hf:ev (dB x.tm) fo=kf)(h:AI.cJ ro dp J P nt R 99 400 (.ops ops rest (i+1) (ft++[([],[])]) d::k) ⟨AT o.dst (res.cF (eO [] (x.nx+64*i))) x.tm,x.mm,x.nx⟩)
  (hd:mM nt o.dst=true:=by rfl) (hg:o.guard=none\/∃g wa,o.guard=some (g,wa)/\pJ ops g (dB x.tm)=some wa:=by first|exact .inl rfl|exact .inr ⟨_,_,rfl,by simp⟩|exact .inr ⟨_,_,rfl,by simp[*]⟩)
  (ha:eJ.leL (c.args.toList.map (ev (dB x.tm))) args:=by simp) (hk:clean k=true:=by rfl):CI ro dp J P nt R (.ops ops (o::rest) i ft d::k) x:=
 .ziT h0 ho hc hd hg hf ha (.CD 99 400 hk h)
theorem CI.s {tm:List (Nat×AV)}{mm:List (Nat×bC)}{nx:Nat}(g:List (Nat×Nat))(gv:List Nat)(hs:TQ x tm mm nx g gv)(h:CI ro dp J P nt R k ⟨tm,mm.map (fun p=>(p.1,some p.2)),nx⟩)(hk:clean k=true:=by rfl):CI ro dp J P nt R k x:=.sub g gv hk hs h
theorem aJ {st n:Nat}{t:Bool}{a b:Code}(h1:t=true->AI.cJ ro dp J P nt R st n (.br (.d (.v (.bool true))) a b::k) x)(h2:t=false->AI.cJ ro dp J P nt R st n (.br (.d (.v (.bool false))) a b::k) x):AI.cJ ro dp J P nt R st n (.br (.d (.v (.bool t))) a b::k) x:=zbS h1 h2
theorem bX {st n:Nat}{t wa:Bool}(h1:t=true->AI.cJ ro dp J P nt R st n (.gd (.d (.v (.bool true))) wa ops o rest i ft d::k) x)(h2:t=false->AI.cJ ro dp J P nt R st n (.gd (.d (.v (.bool false))) wa ops o rest i ft d::k) x):AI.cJ ro dp J P nt R st n (.gd (.d (.v (.bool t))) wa ops o rest i ft d::k) x:=zbR h1 h2
variable {G : (Nat -> Prop) -> World -> Prop}
theorem CI.j (bn:List Nat)(hct:cO G P f args mr m res m')(h:AI.cJ none dp (JG G) P nt R 99 400 (.ops ops rest (i+1) (ft++[(kL bn (x.nx+64*i) mr m res m').qP]) d::k) (x.app o.dst (kL bn (x.nx+64*i) mr m res m')))
  (hen:Enters P f:=by exact Enters.of (by decide+kernel)) (ho:o.op=.call c:=by rfl) (hc:c.callee=.value fo:=by rfl) (hd:mM nt o.dst=true:=by rfl) (hg:o.guard=none\/∃g wa,o.guard=some (g,wa)/\pJ ops g (dB x.tm)=some wa:=by first|exact .inl rfl|exact .inr ⟨_,_,rfl,by simp⟩|exact .inr ⟨_,_,rfl,by simp[*]⟩)
  (hf:sJ (ev (dB x.tm) fo)=some (f,fs,cap):=by rfl) (ha:eJ.leL (fs++c.args.toList.map (ev (dB x.tm))++cap) (args.map (AV.cF (eO bn (x.nx+64*i)))):=by simp) (hn:z8 bn args mr m res m':=by constructor<;>simp[fD])
  (hk:∀p∈mr++m,dM x.mm (eO bn (x.nx+64*i) p.1)=some (p.2.cF (eO bn (x.nx+64*i))):=by simp) (hl:clean k=true:=by rfl):CI none dp (JG G) P nt R (.ops ops (o::rest) i ft d::k) x:=
 .ziR bn hct hen ho hc hd hg hf ha hn hk (.CD 99 400 hl h)
end
end
theorem zj4 {P:Program}{t:TypeId}{ti:TI}{n E:Nat}(h:aZ P t=some ti)(hk:ti.k=.arr n E):P.underlying t=some (.array n E):=by
 obtain⟨i,d,z,hi,hd,hz,rfl⟩:=j7 h;rw[hd];simp only at hk;cases d<;>simp[jG]at hk;obtain⟨rfl,rfl⟩:=hk;rfl
theorem zed {P:Program}{o:Oper}{T E:TypeId}{xo:Operand}{n:Nat}{ti te:TI}(ho:o.op=.slice T xo none none none)(hT:aZ P T=some ti)(hk:ti.k=.arr n E)(hE:aZ P E=some te)(hs:te.sz=1){tm:Nat->AV}{m:Mem}{nm:Nat}{cs:List D}
  (hx:ev tm xo=.d (.bM cs)) (h0:0<n) (hn:n<=cs.length) (hm:n<=1000):bT P o tm m nm (.d (.ro true ((cs.take n).map fun c=>[c]))) m:=by
 refine bT.pure fun a w σ I h _=>?_;have hv:=dZ (σ:=σ) (I:=I) (w:=w) (tm:=tm) (a:=a) (x:=xo) fun s e=>h s (by simp[ho,Op.operands,e])
 rw[hx]at hv;have hu:=zj4 hT hk;have hl:((cs.take n).map fun c=>[c]).length=n:=by rw[vZ,yV];omega
 generalize hy:a.eval xo=y at hv;cases hv with
 |d hd=>cases hd with
  | @bM _ bQ off val hI hc hr h1=>
    have hb:=xV (P:=P) (w:=w) (isS:=false) (len:=n) (cap:=n) (lo:=none) (hi:=none) (mx:=none) (.inl ⟨rfl,rfl⟩) (.inl ⟨rfl,rfl⟩) (.inl ⟨rfl,rfl⟩) ⟨by simp,by simp,by simp,trivial⟩ (fun h=>absurd rfl h) (cM _);have hn0:¬n=0:=by omega
    refine⟨.slice (some ⟨bQ,off,none⟩) n n,?_,.d ?_⟩
    ·simp only[rH,Option.getD_none,Int.toNat_zero,AG]at hb;simp[execOp,ho,hy,Instr.sliceAt,dV hu,s8 hE,Instr.sureAddr,hb,hn0,add_plain]
    ·have hg:∀(i:Nat) e (j:Nat) c,((cs.take n).map fun c=>[c])[i]? =some e->e[j]? =some c->j=0/\cs[i]? =some c:=by
      intro i e j c h1 h2;rw[iJ,HK]at h1;split at h1
      ·obtain⟨c',h3,rfl⟩:=qA.1 h1;cases j with
       |zero=>simp at h2;subst h2;exact⟨rfl,h3⟩
       |succ j=>simp at h2
      ·simp at h1
     have:=RD.ro (I:=I) (w:=w) (sz:=1) (fc:=true) (es:=(cs.take n).map fun c=>[c]) (bQ:=bQ) (off:=off) (cap:=n) (fun i j=>val (i+j)) hI (fun e he=>by obtain⟨c,_,rfl⟩:=eR.1 he;rfl) (by omega) (by simp[maxLen];omega) (fun _=>hl.symm)
      (fun i e j c he hcc=>by obtain⟨rfl,h3⟩:=hg i e j c he hcc;simpa using hc i c h3)
      (fun i e j c he hcc=>by obtain⟨rfl,h3⟩:=hg i e j c he hcc;simpa using hr i c h3)
      (fun i e j c he hcc=>by obtain⟨rfl,h3⟩:=hg i e j c he hcc;simpa using h1 i c h3)
     rwa[hl]at this
theorem CI.arr {ro:Option Nat}{dp:Nat}{J:Names->(Nat->Prop)->World->Prop}{P:Program}{nt:Nat}{R:Exit->X->Prop}{ops:Array Oper}{o:Oper}{rest:List Oper}{i:Nat}{ft:List (List Nat×List Nat)}{d:Bool}{k:List It}{x:X}{T E:TypeId}{xo:Operand}{n:Nat}{ti te:TI}{cs:List D}(hT:aZ P T=some ti)(hE:aZ P E=some te)(st:Nat)
  (h:AI.cJ ro dp J P nt R st 400 (.ops ops rest (i+1) (ft++[([],[])]) d::k) ⟨AT o.dst (.d (.ro true ((cs.take n).map fun c=>[c]))) x.tm,x.mm,x.nx⟩)
  (ho:o.op=.slice T xo none none none:=by rfl) (hk:ti.k=.arr n E:=by rfl) (hs:te.sz=1:=by rfl) (hx:ev (dB x.tm) xo=.d (.bM cs):=by rfl) (h0:0<n:=by decide) (hn:n<=cs.length:=by simp) (hm:n<=1000:=by decide) (hd:mM nt o.dst=true:=by rfl)
  (hg:o.guard=none\/∃g wa,o.guard=some (g,wa)/\pJ ops g (dB x.tm)=some wa:=by first|exact .inl rfl|exact .inr ⟨_,_,rfl,by simp⟩|exact .inr ⟨_,_,rfl,by simp[*]⟩) (hc:clean k=true:=by rfl):CI ro dp J P nt R (.ops ops (o::rest) i ft d::k) x:=
 .op ⟨_,[],[]⟩ hd hg ((zed ho hT hk hE hs hx h0 hn hm).qC (by simp[xW,ho])) (.CD st 400 hc h)
theorem Ct.data {P:Program}{f:FuncId}{args:List AV}{sz:Nat}{es:List (List D)}{T:TypeId}(h:Ct P f args [] [] (.own 64) [(64,.grow sz es T)]):Ct P f args [] [] (.d (.ro false es)) []:=by
 intro σ I w vs hI hl ha hm h64;refine(h σ I w vs hI hl ha hm h64).mono ?_;rintro e w' ⟨v,σ',I',rfl,hp,hv⟩;have hr:=LY (kp:=fun _=>false) hp.mem 8 hv;have e1:fO (fun _=>false) (bE ([]++[(64,.grow sz es T)])) 8 (.own 64)=.d (.ro false es):=by simp[fO,bE]
 rw[e1]at hr;refine⟨v,σ',_,rfl,⟨hp.os,hp.tape,hp.output,hp.size,hp.names,hp.new,fun n h=>.inl (hp.vI n h),?_,?_,hp.frame,⟨fun b k h=>by simp[bE]at h,fun b b' k k' x x' n h=>by simp[bE]at h⟩,fun b k h=>by simp[bE]at h,?_⟩,hr⟩
 ·rintro n (h|⟨b,_,b',k,x,h0,h1,h2,h3⟩)
  ·exact hp.ib n h
  ·obtain⟨y,hy,_,hn⟩:=hp.mem.bQ _ _ h1;rw[hy]at h2;cases h2;exact(hn n h3).1
 ·rintro n (h|⟨b,_,b',k,x,h0,h1,h2,h3⟩)
  ·exact hp.lQ n h
  ·rcases hp.kX n ⟨b',k,x,h1,h2,h3⟩with g|g
   ·exact .inr (.inr g)
   ·exact .inr (.inl g)
 ·rintro n ⟨b,k,x,h,_⟩;simp[bE]at h
def T0 (R:Exit->X->Prop)(l:Nat)(B:X->Prop):Exit->X->Prop
 |.goto l',x=>l'=l/\B x
 |e,x=>R e x
@[simp] theorem JumpR_ret (R:Exit->X->Prop)(l:Nat)(B:X->Prop)(x:X):T0 R l B .ret x=R .ret x:=rfl
@[simp] theorem JumpR_normal (R:Exit->X->Prop)(l:Nat)(B:X->Prop)(x:X):T0 R l B .normal x=R .normal x:=rfl
@[simp] theorem JumpR_goto (R:Exit->X->Prop)(l l':Nat)(B:X->Prop)(x:X):T0 R l B (.goto l') x=(l'=l/\B x):=rfl
theorem least (S:Nat->Prop):∀n,S n->∃m,S m/\∀k,S k->m<=k:=by
 intro n;induction n using Nat.strongRecOn with
 |_ n ih=>
  intro h;by_cases e:∃k,k<n/\S k
  ·obtain⟨k,h1,h2⟩:=e;exact ih k h1 h2
  ·exact⟨n,h,fun k hk=>Nat.le_of_not_lt fun hlt=>e ⟨k,hlt,hk⟩⟩
theorem CI.jumps {dp:Nat}{J:Names->(Nat->Prop)->World->Prop}{P:Program}{nt:Nat}{R:Exit->X->Prop}{x:X}(hm:P.follows .mixedOrders=true)(hp:Plain R){pre rest:Code}{l:Nat}{ι:Type}(tm:ι->List (Nat×AV))(m:ι->List (Nat×bC))(nx:Nat)(μ:ι->Nat)(i0:ι)(hpre:findLabel pre l=none)
  (first:∀B:X->Prop,(∀x gv,Sub x (tm i0) (m i0) nx gv->B x)->CI none dp J P nt R [.code pre,.stop B] x)
  (step:∀i (B:X->Prop),(∀x j gv,Sub x (tm j) (m j) nx gv->μ j<μ i->B x)->CI none dp J P nt (T0 R l B) [.code rest] ⟨tm i,(m i).map (fun p=>(p.1,some p.2)),nx⟩):CI none dp J P nt R [.code (.scope (.seq pre (.seq (.label l) rest)))] x:=by
 classical
 refine CI.Rf rfl fun E hP hn hJ a w hr=>?_;subst hP
 let fam:ι->X:=fun i=>⟨tm i,(m i).map (fun p=>(p.1,some p.2)),nx⟩
 have pass0:∀i a w,Rel E (fam i).den a w->rest.wp E.P (Exit.jump l (fun a' w'=>∃j,Rel E (fam j).den a' w'/\μ j<μ i) (tL E R)) a w:=by
  intro i a w hr;have:=CI.wp hm (step i (fun y=>∃j gv,Sub y (tm j) (m j) nx gv/\μ j<μ i) (fun x j gv hs hlt=>⟨j,gv,hs,hlt⟩)) rfl E rfl hn hJ a w hr;refine wp_mono this fun e a w h=>?_;cases e with
  |goto l'=>
   obtain⟨y,hy,rfl,j,gv,hs,hlt⟩:=h;exact⟨rfl,j,Rel.sub hs hy,hlt⟩
  |_=>
   obtain⟨y,hy,hr⟩:=h;exact⟨y,hy,hr⟩
 let S:Act->World->Nat->Prop:=fun a w n=>∃j,Rel E (fam j).den a w/\μ j=n
 have h1:=CI.wp hm (first (fun y=>∃gv,Sub y (tm i0) (m i0) nx gv) (fun x gv hs=>⟨gv,hs⟩)) rfl E rfl hn hJ a w hr;refine wp_scope_jumps (rest:=.seq .skip rest) l (fun a w=>∃j,Rel E (fam j).den a w) (fun a w=>if h:∃m,S a w m/\∀k,S a w k->m<=k then Classical.choose h else 0) (by simp[findLabel,hpre]) ?_ ?_
 ·refine wp_seq (wp_mono h1 fun e a w h=>?_);cases e with
  |normal=>
   simp only[eP]at h;obtain⟨y,hy,gv,hs⟩:=h;refine wp_seq (wp_label ?_);refine wp_mono (pass0 i0 a w (Rel.sub hs hy)) fun e a w h=>?_;cases e with
   |goto l'=>exact⟨h.1,h.2.imp fun j hj=>hj.1⟩
   |_=>exact h
  |goto l'=>exact absurd h (by simp only[eP];exact fun⟨y,_,hr⟩=>hp.1 _ _ hr)
  |_=>simp only[eP]at h;exact h
 ·rintro a w ⟨j0,hj0⟩;have hex:=least (S a w) (μ j0) ⟨j0,hj0,rfl⟩;obtain⟨⟨j,hj,hmj⟩,hmin⟩:=Classical.choose_spec hex;refine wp_seq (wp_skip ?_);refine wp_mono (pass0 j a w hj) fun e a' w' h=>?_;cases e with
  |goto l'=>
   obtain⟨e1,j',hj',hlt⟩:=h;have hex':=least (S a' w') (μ j') ⟨j',hj',rfl⟩;refine⟨e1,⟨j',hj'⟩,?_⟩;simp only[dif_pos hex,dif_pos hex'];have:=(Classical.choose_spec hex').2 (μ j') ⟨j',hj',rfl⟩;omega
  |_=>exact h
open Go.Lib Go.Sort Go.Shelf Go.RowKit Go.Proofs
def T2 (P:Program)(f:FuncId)(sz:Nat)(TS:TypeId):Prop:=
 ∀(bQ cap k len:Nat) (news:List Value) (w W2:World),k<len->len<=cap->cap<=9223372036854775807->
  ∀(A:Addr),(if cap=k+1 then some (⟨bQ,0,none⟩:Addr)else some ⟨bQ,(k+1)*sz,none⟩)=some A->
  Hid (∀t u,news[t]? =some u->w.drew.cell? (A.add t)=some u)->Hid (news.length=(len-(k+1))*sz)->Hid (∀u∈news,u.oneCell'=true)->
  Hid (∀t,t<news.length->(w.drew.cell? ⟨bQ,0+k*sz+t,none⟩).isSome=true/\w.drew.frozen? ⟨bQ,0+k*sz+t,none⟩=false)->
  (∀ty,(Builtin.clear_ #[TS] ty #[.slice (some ⟨bQ,(k+(len-(k+1)))*sz,none⟩) (len-(k+(len-(k+1)))) (cap-(k+(len-(k+1))))]).run P (w.drew.setCells bQ (0+k*sz) news)=.ok (.tuple #[]) W2)->
  Calls P f #[.slice (some ⟨bQ,0,none⟩) len cap,.int .i64 k,.int .i64 ((k:Int)+1)] w fun e w'=>e=.returned (.slice (some ⟨bQ,0,none⟩) (len-1) cap)/\w'=W2
theorem zbM {P:Program}{w:World}{TS T:TypeId}{sz:Nat}(ht:P.underlying TS=some (.slice T)){z:Value}(hv:∀w,(zeroValue T).run P w=.ok z w)(hz:z.cells.size=sz)(h1:∀v∈z.cells.toList,v.oneCell'=true)(h0:0<sz){n i c:Nat}{arr:Array Value}
  (g1:w.heap[n]? =some (.cells arr T (0,0))) (hfit:i*sz+sz<=arr.size):
  ∃vs:List Value,vs.length=sz/\∀ty,(Builtin.clear_ #[TS] ty #[.slice (some ⟨n,i*sz,none⟩) 1 c]).run P w=.ok (.tuple #[]) (w.setRow n (arr.toList.take (i*sz)++vs++arr.toList.drop (i*sz+sz)).toArray):=by
 let vs:List Value:=(Builtin.zeroCells z.cells 1).toList
 have hvl:vs.length=sz:=by simp[vs,Builtin.zeroCells,hz]
 have hvone:∀v∈vs,v.oneCell'=true:=by
  intro v hv;obtain⟨q,hq⟩:=DN hv;have hql:q<sz:=by rw[<-hvl];exact(cC.1 hq).1
  have hvx:vs[q]? =some (z.cells[q%sz]!):=by
   simp only[vs,Builtin.zeroCells,hz,yX,Array.getElem?_map];have:(Array.range (1*sz))[q]? =some q:=by simp[hql]
   rw[this];rfl
  rw[hvx]at hq;cases hq;have hlt:q%sz<z.cells.size:=by rw[hz];exact FH _ h0
  refine h1 _ ?_;rw[FE z.cells _ hlt];simp
 have hrun:=T4 (P:=P) n (i*sz) T vs 0 arr w g1 (by rw[hvl];omega) hvone;simp only[yU]at hrun;rw[hvl]at hrun;refine⟨vs,hvl,fun ty=>?_⟩;simp[Builtin.clear_,dV ht,hv];simp only[vs]at hrun;rw[hrun];simp[Result.andThen,vs]
theorem Lv {l vs:List Value}{a q:Nat}(h:a+vs.length<=l.length):(l.take a++vs++l.drop (a+vs.length)).toArray[q]? =if q<a then l[q]? else if q<a+vs.length then vs[q-a]? else l[q]? :=by
 rw[KN];have hl:(l.take a).length=a:=by simp;omega
 by_cases h1:q<a
 ·rw[aU h1,AE,jY (by omega),KO h1]
 ·rw[aH h1];by_cases h2:q<a+vs.length
  ·rw[aU h2,jY (by simp;omega),nL (by omega),hl]
  ·rw[aH h2,nL (by simp;omega),rQ];congr 1
   simp;omega
theorem Ct.delete {P:Program}{f:FuncId}{sz:Nat}{TS T:TypeId}{es:List (List D)}{k:Nat}(raw:T2 P f sz TS)(ht:P.underlying TS=some (.slice T)){i0:TypeInfo}(hi:P.info? T=some i0)(his:i0.size=sz){z:Value}(hv:∀w,(zeroValue T).run P w=.ok z w)(hz:z.cells.size=sz)
  (h1:∀v∈z.cells.toList,v.oneCell'=true) (h0:0<sz) (hk:k<es.length):Ct P f [.own 0,.d (.v (.int .i64 k)),.d (.v (.int .i64 ((k:Int)+1)))] [] [(0,.grow sz es T)] (.d (.ro false (es.eraseIdx k))) []:=by
 intro σ I w vs hI hlen ha hm hn
 match vs,hlen with
 |[y,a,b],_=>
 have e1:=fM (ha 1 _ _ rfl rfl);have e2:=fM (ha 2 _ _ rfl rfl);subst e1 e2;have hy:σ 0=some y:=by cases ha 0 _ _ rfl rfl with|own h _=>exact h
 obtain⟨y',hy',hrb,hnn⟩:=hm.bQ 0 _ rfl;rw[hy]at hy';cases hy'
 obtain⟨n,cap,arr,rfl,g1,g2,g3,g4,g5,g6⟩:∃n cap arr,y=.slice (some ⟨n,0,none⟩) es.length cap/\w.heap[n]? =some (.cells arr T (0,0))/\cap*sz<=arr.size/\es.length<=cap/\cap<=maxLen/\(∀e∈es,e.length=sz)/\
   (∀(i:Nat) e (j:Nat) c,es[i]? =some e->e[j]? =some c->∃x,arr[i*sz+j]? =some x/\RD I w c x/\x.oneCell'=true):=by
  cases hrb with
  |none=>simp at hk
  |emp _=>simp at hk
  |grow g1 g2 g3 g4 g5 g6=>exact⟨_,_,_,rfl,g1,g2,g3,g4,g5,g6⟩
 have hcap:0<cap:=by omega
 have hbn:AI.hb (Value.slice (some ⟨n,0,none⟩) es.length cap)=some n:=vK hcap;have hnI:¬I n:=(hnn n hbn).2;have hnh:n<w.heap.size:=(hnn n hbn).1;have hfit:es.length*sz<=arr.size:=fV (pB _ g3) g2;have hks:(k+1)*sz+(es.length-(k+1))*sz=es.length*sz:=by rw[<-kM];congr 1;omega
 have hks2:k*sz+sz=(k+1)*sz:=by rw[kM,sT]
 have hks3:(es.length-1)*sz+sz=es.length*sz:=by
  obtain⟨l,hl⟩:∃l,es.length=l+1:=⟨es.length-1,by omega⟩;rw[hl,Nat.add_sub_cancel,kM,sT]
 let news:List Value:=(arr.toList.drop ((k+1)*sz)).take ((es.length-(k+1))*sz)
 have hnl:news.length=(es.length-(k+1))*sz:=by simp[news];omega
 have hnget:∀t,t<news.length->news[t]? =arr[(k+1)*sz+t]? :=by
  intro t ht;rw[hnl]at ht;simp only[news];rw[KO ht,rQ,yX]
 have hone:∀q,q<es.length*sz->∃x,arr[q]? =some x/\x.oneCell'=true:=by
  intro q hq;have hi:q/sz<es.length:=N5 (by rw[vW];exact hq);have hm:q%sz<sz:=FH _ h0;have he:=cI hi;have hel:=g5 _ (lU hi);obtain⟨x,p1,_,p3⟩:=g6 (q/sz) _ (q%sz) _ he (cI (by omega));refine⟨x,?_,p3⟩;rw[vW,Nat.div_add_mod]at p1;exact p1
 have hnone:∀u∈news,u.oneCell'=true:=by
  intro u hu;obtain⟨t,ht⟩:=DN hu;have hlt:=(cC.1 ht).1;rw[hnget t hlt]at ht;obtain⟨x,p1,p2⟩:=hone ((k+1)*sz+t) (by rw[hnl]at hlt;omega);rw[p1]at ht;cases ht;exact p2
 have hcell:∀q,w.drew.cell? ⟨n,q,none⟩=arr[q]? :=fun q=>A9 (w:=w.drew) (T:=T) (fr:=(0,0)) g1;obtain⟨A,hA,hsrc⟩:∃A:Addr,(if cap=k+1 then some (⟨n,0,none⟩:Addr)else some ⟨n,(k+1)*sz,none⟩)=some A/\∀t u,news[t]? =some u->w.drew.cell? (A.add t)=some u:=by
  by_cases h:cap=k+1
  ·refine⟨⟨n,0,none⟩,by simp[h],fun t u hu=>?_⟩;have:news.length=0:=by rw[hnl,show es.length-(k+1)=0 by omega,Nat.zero_mul]
   rw[jL this]at hu;simp at hu
  ·refine⟨⟨n,(k+1)*sz,none⟩,by simp[h],fun t u hu=>?_⟩;rw[add_plain,hcell,<-hnget t (cC.1 hu).1,hu]
 let arr1:Array Value:=(arr.toList.take (k*sz)++news++arr.toList.drop (k*sz+news.length)).toArray
 have hfit1:k*sz+news.length<=arr.size:=by rw[hnl];omega
 have ha1:arr1.size=arr.size:=by simp[arr1];omega
 have g1':w.drew.heap[n]? =some (.cells arr T (0,0)):=g1;have hfz:∀q,w.drew.frozen? ⟨n,q,none⟩=false:=fun q=>by unfold World.frozen?;simp only[g1'];simp
 have hsome:∀q,q<es.length*sz->(w.drew.cell? ⟨n,q,none⟩).isSome=true:=fun q hq=>by
  obtain⟨x,p,_⟩:=hone q hq;rw[hcell,p];rfl
 have hset:w.drew.setCells n (0+k*sz) news=w.drew.setRow n arr1:=by
  have r1:=run_storeCells_cells (P:=P) n (k*sz) news 0 w.drew (fun j hj=>by rw[yU];exact hsome _ (by rw[hnl]at hj;omega)) (fun j hj=>by rw[yU];exact hfz _) hnone;have r2:=T4 (P:=P) n (k*sz) T news 0 arr w.drew g1' (by omega) hnone;simp only[yU]at r1 r2;rw[r1]at r2;rw[BP];injection r2
 have g1a:(w.drew.setRow n arr1).heap[n]? =some (.cells arr1 T (0,0)):=setRow_heap w.drew n arr _ T (0,0) g1';obtain⟨zs,hzl,hclr⟩:=zbM (P:=P) (w:=w.drew.setRow n arr1) (c:=cap-(es.length-1)) ht hv hz h1 h0 (i:=es.length-1) g1a (by rw[ha1];omega)
 let mZ:Array Value:=(arr1.toList.take ((es.length-1)*sz)++zs++arr1.toList.drop ((es.length-1)*sz+sz)).toArray
 have hW:∀ty,(Builtin.clear_ #[TS] ty #[.slice (some ⟨n,(k+(es.length-(k+1)))*sz,none⟩) (es.length-(k+(es.length-(k+1)))) (cap-(k+(es.length-(k+1))))]).run P (w.drew.setCells n (0+k*sz) news)=.ok (.tuple #[]) ((w.drew.setRow n arr1).setRow n mZ):=by
  intro ty;rw[hset,show k+(es.length-(k+1))=es.length-1 by omega,show es.length-(es.length-1)=1 by omega];exact hclr ty
 refine(raw n cap k es.length news w ((w.drew.setRow n arr1).setRow n mZ) hk g3 g4 A hA hsrc hnl hnone (fun t ht=>⟨hsome _ (by rw[hnl]at ht;omega),hfz _⟩) hW).mono ?_;rintro e w' ⟨rfl,rfl⟩;have ha2:mZ.size=arr.size:=by simp[mZ,hzl,ha1];omega
 have g2a:((w.drew.setRow n arr1).setRow n mZ).heap[n]? =some (.cells mZ T (0,0)):=setRow_heap _ n arr1 _ T (0,0) g1a;have hoth:∀j,j≠n->((w.drew.setRow n arr1).setRow n mZ).heap[j]? =w.heap[j]? :=fun j hj=>(DF _ n j _ hj).trans (DF _ n j _ hj);have hat:∀q,q<(es.length-1)*sz->mZ[q]? =if q<k*sz then arr[q]? else arr[q+sz]? :=by
  intro q hq;have m1:=Lv (l:=arr1.toList) (vs:=zs) (a:=(es.length-1)*sz) (q:=q) (by rw[hzl];simp[ha1];omega);rw[hzl,aU hq,yX]at m1;have m2:=Lv (l:=arr.toList) (vs:=news) (a:=k*sz) (q:=q) (by simpa using hfit1);have m3:mZ[q]? =arr1[q]? :=m1;have m4:arr1[q]? =if q<k*sz then arr.toList[q]? else if q<k*sz+news.length then news[q-k*sz]? else arr.toList[q]? :=m2
  rw[m3,m4,yX];by_cases c1:q<k*sz
  ·rw[aU c1,aU c1]
  ·rw[aH c1,aH c1,aU (by rw[hnl];omega),hnget _ (by rw[hnl];omega)];congr 1;omega
 refine⟨_,σ,fun j=>I j\/j=n,rfl,{os:=rfl,tape:=rfl,output:=⟨rfl,Nat.le_succ _⟩,size:=by simp,names:=fun b x h=>h,new:=fun b h1 h2=>absurd h1 h2,vI:=fun j h=>.inl h,ib:=?_,lQ:=?_,frame:=?_,mem:=⟨fun b q hb=>by simp[bE]at hb,fun b b' q q' x x' j hb=>by simp[bE]at hb⟩,wW:=fun b q hb=>by simp[bE]at hb,kX:=?_},?_⟩
 ·rintro j (h|rfl)
  ·simpa using hI j h
  ·simpa using hnh
 ·rintro j (h|rfl)
  ·exact .inl h
  ·exact .inr (.inr ⟨0,_,_,rfl,hy,hbn⟩)
 ·intro j hj ho;exact hoth j (fun e=>ho (e▸⟨0,_,_,rfl,hy,hbn⟩))
 ·rintro j ⟨b,q,x,hb,_⟩;simp[bE]at hb
 ·have hel:(es.eraseIdx k).length=es.length-1:=by rw[List.length_eraseIdx,aU hk]
  have mono:∀{c y},RD I w c y->RD (fun j=>I j\/j=n) ((w.drew.setRow n arr1).setRow n mZ) c y:=fun h=>h.mono (fun j hj=>hoth j (fun e=>hnI (e▸hj))) (fun _ h=>.inl h);have key:∀(i:Nat) e (j:Nat) c,(es.eraseIdx k)[i]? =some e->e[j]? =some c->∃x,mZ[i*sz+j]? =some x/\RD I w c x/\x.oneCell'=true:=by
   intro i e j c h3 h4;have hil:i<es.length-1:=by rw[<-hel];exact(cC.1 h3).1
   rw[List.getElem?_eraseIdx]at h3;by_cases c1:i<k
   ·rw[aU c1]at h3;obtain⟨x,p1,p2,p3⟩:=g6 i e j c h3 h4;have hj:j<sz:=by rw[<-g5 e (eH h3)];exact(cC.1 h4).1
    have q1:(i+1)*sz<=k*sz:=pB _ c1;have q2:(i+1)*sz<=(es.length-1)*sz:=pB _ hil;rw[kM,sT]at q1 q2;exact⟨x,by rw[hat _ (by omega),aU (by omega)];exact p1,p2,p3⟩
   ·rw[aH c1]at h3;obtain⟨x,p1,p2,p3⟩:=g6 (i+1) e j c h3 h4;have hj:j<sz:=by rw[<-g5 e (eH h3)];exact(cC.1 h4).1
    have q1:k*sz<=i*sz:=pB _ (by omega);have q2:(i+1)*sz<=(es.length-1)*sz:=pB _ hil;rw[kM,sT]at q2 p1;refine⟨x,?_,p2,p3⟩;rw[hat _ (by omega),aH (by omega),show i*sz+j+sz=i*sz+sz+j by omega];exact p1
  have hr:=RD.ro (I:=fun j=>I j\/j=n) (w:=(w.drew.setRow n arr1).setRow n mZ) (sz:=sz) (fc:=false) (es:=es.eraseIdx k) (bQ:=n) (off:=0) (cap:=cap) (fun i j=>mZ.getD (i*sz+j) undef) (.inr rfl) (fun e he=>g5 e (DL he)) (by omega) g4 (by simp)
   (fun i e j c h3 h4=>by
     obtain⟨x,p1,_,_⟩:=key i e j c h3 h4;rw[BP,A9 g2a];simp[p1])
   (fun i e j c h3 h4=>by
     obtain⟨x,p1,p2,_⟩:=key i e j c h3 h4;have e0:mZ.getD (i*sz+j) undef=x:=by simp[p1]
     rw[e0];exact mono p2)
   (fun i e j c h3 h4=>by
     obtain⟨x,p1,_,p3⟩:=key i e j c h3 h4;have e0:mZ.getD (i*sz+j) undef=x:=by simp[p1]
     rw[e0];exact p3)
  rw[hel]at hr;exact .d hr
theorem Ct.Qy {P:Program}{f:FuncId}{sz:Nat}{TS T:TypeId}{es:List (List D)}{k:Nat}{ti:TI}(raw:T2 P f sz TS)(ht:P.underlying TS=some (.slice T))(hi:aZ P T=some ti)(his:ti.sz=sz)(hz:ti.zero.length=sz)(h1:ti.zero.all Value.oneCell'=true)(h0:0<sz)(hk:k<es.length):
  Ct P f [.own 0,.d (.v (.int .i64 k)),.d (.v (.int .i64 ((k:Int)+1)))] [] [(0,.grow sz es T)] (.d (.ro false (es.eraseIdx k))) []:=by
 obtain⟨i,d,z,hi',hd,hz',rfl⟩:=j7 hi;exact Ct.delete raw ht hi' his (z:=z) (fun w=>by simp[zeroValue,typeInfo,hi',hz']) (by simpa using hz) (fun v hv=>eF.1 h1 v hv) h0 hk
end Go.AI
namespace Go.AI
theorem Ha {σ:Names}{I:Nat->Prop}{w:World}{pre post:List AV}{T:TypeId}{b:Nat}{x v:Value}(hv:σ b=some v)(h1:v.oneCell'=true):RB σ I w (.cells (pre++ .own b::post) T) x↔RB σ I w (.cells (pre++ .d (.v v)::post) T) x:=by
 have key:∀(c c':AV),(∀y,RV σ I w c y->RV σ I w c' y)->RB σ I w (.cells (pre++c::post) T) x->RB σ I w (.cells (pre++c'::post) T) x:=by
  intro c c' h hb;cases hb with
  |cells hw hl hr=>
   refine .cells hw (by simpa using hl) fun i d y hd hy=>?_;by_cases hi:i<pre.length
   ·rw[jY hi]at hd;exact hr i d y (by rw[jY hi];exact hd) hy
   ·rw[nL (by omega)]at hd;have e:(pre++c::post)[i]? =(c::post)[i-pre.length]? :=nL (by omega);cases hk:i-pre.length with
    |zero=>
     rw[hk]at hd e;simp at hd e;subst hd;exact h _ (hr i c y e hy)
    |succ k=>
     rw[hk]at hd e;simp at hd e;exact hr i d y (by rw[e];exact hd) hy
 constructor
 ·exact key _ _ fun y h=>by
   cases h with
   |own h _=>rw[hv]at h;cases h;exact .d (.v _)
 ·exact key _ _ fun y h=>by
   have:=fM h;subst this;exact .own hv h1
theorem AZ {mr rest:List (Nat×bC)}{a c:bC}(h0:bE mr 0=none)(b:Nat):bE (mr++(0,a)::rest) b=if b=0 then some a else bE (mr++(0,c)::rest) b:=by
 have app:∀(l r:List (Nat×bC)),bE (l++r) b=match bE l b with|some k=>some k|none=>bE r b:=by
  intro l r;induction l with
  |nil=>rfl
  |cons p l ih=>
   simp only[BY,bE];split
   ·rfl
   ·exact ih
 rw[app,app];by_cases hb:b=0
 ·subst hb;rw[h0];simp[bE]
 ·rw[aH hb];cases bE mr b with
  |some k=>rfl
  |none=>simp[bE,tT hb]
theorem Gn {σ:Names}{I:Nat->Prop}{w:World}{mr rest:List (Nat×bC)}{a c:bC}(h0:bE mr 0=none)(hc:∀x,RB σ I w a x->RB σ I w c x)(h:RM σ I w (bE (mr++(0,a)::rest))):RM σ I w (bE (mr++(0,c)::rest)):=by
 have back:∀b k,bE (mr++(0,c)::rest) b=some k->∃k',bE (mr++(0,a)::rest) b=some k':=by
  intro b k hk;rw[AZ h0 (c:=a)]at hk;rw[AZ h0 (c:=a)];by_cases hb:b=0
  ·exact⟨a,by rw[aU hb]⟩
  ·rw[aH hb]at hk⊢;exact⟨k,hk⟩
 refine⟨fun b k hk=>?_,fun b b' k k' x x' n h1 h2 h3 h4 h5 h6=>?_⟩
 ·rw[AZ h0 (c:=a)]at hk;by_cases hb:b=0
  ·rw[aU hb]at hk;cases hk;obtain⟨x,p,q,r⟩:=h.bQ b a (by rw[AZ h0 (c:=a),aU hb]);exact⟨x,p,hc x q,r⟩
  ·rw[aH hb]at hk;exact h.bQ b k hk
 ·obtain⟨q,hq⟩:=back b k h1;obtain⟨q',hq'⟩:=back b' k' h2;exact h.apart b b' q q' x x' n hq hq' h3 h4 h5 h6
theorem P5 {σ:Names}{mr rest:List (Nat×bC)}{a c:bC}(h0:bE mr 0=none){n:Nat}(h:fU σ (bE (mr++(0,a)::rest)) n):fU σ (bE (mr++(0,c)::rest)) n:=by
 obtain⟨b,k,x,h1,h2,h3⟩:=h;by_cases hb:b=0
 ·exact⟨b,c,x,by rw[AZ h0 (c:=a),aU hb],h2,h3⟩
 ·rw[AZ h0 (c:=c),aH hb]at h1;exact⟨b,k,x,h1,h2,h3⟩
theorem Ct.rJ {P:Program}{f:FuncId}{args:List AV}{mr rest rest':List (Nat×bC)}{res:AV}{pre post pre' post':List AV}{T:TypeId}{b:Nat}(h0:bE mr 0=none)
  (h:∀v,Ct P f args mr ((0,.cells (pre++ .d (.v v)::post) T)::rest) res ((0,.cells (pre'++ .d (.v v)::post') T)::rest')):
  Ct P f args mr ((0,.cells (pre++ .own b::post) T)::rest) res ((0,.cells (pre'++ .own b::post') T)::rest'):=by
 intro σ I w vs hI hl ha hm h64;obtain⟨x,hx,hrb,_⟩:=hm.bQ 0 (.cells (pre++ .own b::post) T) (by rw[AZ h0 (c:=.cells [] T),aU rfl]);obtain⟨v,hv,h1⟩:∃v,σ b=some v/\v.oneCell'=true:=by
  cases hrb with
  | @cells cs T n arr hw hl hr=>
    have hi:pre.length<arr.size:=by rw[hl];simp
    have:=hr pre.length (.own b) arr[pre.length] (by simp) (by simp[hi]);cases this with
    |own h h1=>exact⟨_,h,h1⟩
 have hm1:=Gn h0 (fun x=>(Ha (pre:=pre) (post:=post) hv h1).1) hm;refine(h v σ I w vs hI hl ha hm1 h64).mono ?_;rintro e w' ⟨u,σ',I',rfl,hp,hu⟩;refine⟨u,σ',I',rfl,{os:=hp.os,tape:=hp.tape,output:=hp.output,size:=hp.size,names:=hp.names,new:=hp.new,vI:=hp.vI,ib:=hp.ib,lQ:=fun n hn=>?_,frame:=fun n h1 h2=>hp.frame n h1 (fun ho=>h2 (P5 h0 ho)),mem:=Gn h0 (fun x=>(Ha (hp.names _ _ hv) h1).2) hp.mem,wW:=fun q k hq=>?_,kX:=fun n hn=>?_},hu⟩
 ·rcases hp.lQ n hn with g|g|g
  ·exact .inl g
  ·exact .inr (.inl g)
  ·exact .inr (.inr (P5 h0 g))
 ·rw[AZ h0 (c:=.cells (pre'++ .d (.v v)::post') T)]at hq;by_cases hb:q=0
  ·exact .inl (by rw[AZ h0 (c:=.cells [] T),aU hb];simp)
  ·rw[aH hb]at hq;rcases hp.wW q k hq with g|g
   ·left;rw[AZ h0 (c:=.cells [] T),aH hb]at g⊢;exact g
   ·exact .inr g
 ·rcases hp.kX n (P5 h0 hn)with g|g
  ·exact .inl (P5 h0 g)
  ·exact .inr g
section
variable {ro : Option Nat} {dp : Nat} {J : Names -> (Nat -> Prop) -> World -> Prop}
def dE (ro:Option Nat)(dp:Nat)(J:Names->(Nat->Prop)->World->Prop)(P:Program)(nt:Nat)(R:Exit->X->Prop)(c:Code)(k:List It)(m:Nat)(x:X):Prop:=
 ∀E:Ctx,E.P=P->E.nt=nt->(∀s σ I a w,pM E s σ I a w->J σ I w)->∀a w,Rel E x.den a w->Code.roundsIn (FW ro) dp P c (eP ro dp J E k (tL E R)) m a w
theorem aQ.rounds {P:Program}{nt:Nat}{R:Exit->X->Prop}{c:Code}{k:List It}{x:X}(m:Nat)(h:dE ro dp J P nt R c k m x):aQ ro dp J P nt R c k x:=
 fun E hP hn hJ a w hr=>wpIn_loop_rounds m (h E hP hn hJ a w hr)
theorem dE.step {P:Program}{nt:Nat}{R:Exit->X->Prop}{c:Code}{k:List It}{m:Nat}{x:X}(hm:P.follows .mixedOrders=true)(hk:clean k=true)
  (h:CI ro dp J P nt R (.code c:: .stop (dE ro dp J P nt R c k m)::k) x):dE ro dp J P nt R c k (m+1) x:=by
 intro E hP hn hJ a w hr;have:=(BL hm h E hP hn hJ).1 (by simpa[clean,kJ]using hk) a w hr;simp only[eP]at this;rw[roundsIn_succ];subst hP;refine BO this (fun e a' w' hq=>?_);cases e with
 |normal=>
  simp only[eP,Exit.then]at hq⊢;obtain⟨y,hy,hB⟩:=hq;exact hB E rfl hn hJ a' w' hy
 |_=>simpa only[eP,Exit.then]using hq
theorem dE.s {P:Program}{nt:Nat}{R:Exit->X->Prop}{cd:Code}{k:List It}{m:Nat}{x:X}(h:AI.cJ ro dp J P nt R 99 400 (.code cd:: .stop (dE ro dp J P nt R cd k m)::k) x)(hm:P.follows .mixedOrders=true:=by decide+kernel)(hk:clean k=true:=by rfl):dE ro dp J P nt R cd k (m+1) x:=
 .step hm hk (.run 99 400 (by exact hk) h)
end
end Go.AI
