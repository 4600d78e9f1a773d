/-
  A FRAMEWORK OF MY OWN (4): rounds of ranges over functions, contracts under a premise, functions with a receiver, what goes up, jumps, short forms.
-/
import Derived.Test.YtjoaclgkjhncjaaGreatDoorFc
import Derived.Scope
import Derived.ScopeJumps
import Derived.Shelf.Lays2
import Derived.Shelf.RegionOpenPlain
import Derived.WalkKit
import Derived.Deep.LoopGhost
import Derived.Deep.RegionLaw
import Derived.Lib.Walk
import Derived.Sort.WalkB12
import Derived.Sort.EncStr
import Derived.Lib.SliceRun
import Derived.Lib.SlicesDelete
import Derived.LoopNIn
set_option linter.unusedSimpArgs false
set_option linter.unusedVariables false
namespace Go.AI
theorem RB.not_loop {σ:Names}{I:Nat→Prop}{w:World}{k:Blk}{x:Value}{n:Nat}{r:Loop}(h:RB σ I w k x)(hn:hb x=some n):w.heap[n]? ≠some (.loop r):=by
 cases h with
 |cells h1 h2 h3=>simp[hb]at hn;subst hn;rw[h1];simp
 |none=>simp[hb]at hn
 |emp a=>simp[hb]at hn
 | @grow sz es T n' cap arr h1 h2 h3 h4 h5 h6=>
   cases cap with
   |zero=>simp[hb]at hn
   |succ cap=>simp[hb]at hn;subst hn;rw[h1];simp
 |map keys vals h1 _ _ _ _ _=>simp[hb]at hn;subst hn;rw[h1];simp
 |mapO keys vals h1 _ _ _ _ _ _ _ _=>simp[hb]at hn;subst hn;rw[h1];simp
 |iter h1 h2=>subst h2;simp[hb]at hn;subst hn;rw[h1];simp
 |gnone=>simp[hb]at hn
 |gemp a=>simp[hb]at hn
 |grp h1 h2 h3 h4 h5=>simp[hb]at hn;subst hn;rw[h1];simp
theorem zfp {σ:Names}{I:Nat→Prop}{w:World}{m:Mem}(hm:RM σ I w m){n:Nat}{r:Loop}(hn:w.heap[n]? =some (.loop r)):¬Owns σ m n:=by
 rintro⟨b,k,x,h1,h2,h3⟩;obtain⟨x',h4,h5,_⟩:=hm.blk b k h1;rw[h2]at h4;cases h4;exact h5.not_loop h3 hn
def retR (m m':List (Nat×Blk)):Exit→X→Prop:=fun e x=>e=.normal∧FinOk (zap x.mm) (.d (.v undef)) m (.d (.v undef)) m' []
theorem qlo {P:Program}{nt L dp:Nat}{r:Loop}{tmA tmB:List (Nat×AV)}{m0 m1 mB:List (Nat×Blk)}{nxB:Nat}(hm:P.follows .mixedOrders=true)(hrs:r.state=.ready)(hrp:r.pending=none)
  (hA:CI (some L) dp (fun _ _ _=>True) P nt (fun e x=>e=.normal∧AI.Sub x tmB mB nxB []) [.code r.assign] ⟨tmA,m0.map (fun p=>(p.1,some p.2)),64⟩)
  (hB:CI (some L) dp (fun _ _ _=>True) P nt (retR m0 m1) [.code r.body] ⟨tmB,mB.map (fun p=>(p.1,some p.2)),nxB⟩)
  {T:Array Value} {w:World} {σ:Names} {I:Nat→Prop} (hib:∀n,I n→n<w.heap.size) (hsz:T.size=nt) (htm:∀t,RV σ I w (zal tmA t) (T.getD t undef)) (hrm:RM σ I w (zac m0)) (hlow:∀b,64≤b→σ b=none)
  (hL:w.heap[L]? =some (.loop r)) (hI:¬I L):
  RoundIn (FW none) dp P L r.fn T r.assign r.body w (fun e w'=>e=.returned (.bool true)∧∃I',Post σ I w (zac m0) 64 σ I' w' (zac m1)):=by
 refine roundIn_of_wpIn (F:=FW none) trivial ?_;have hLlt:L<w.heap.size:=(Array.getElem?_eq_some_iff.1 hL).1
 let E1:Ctx:={P:=P,w0:=w,bor:=Owns σ (zac m0),I0:=I,nt:=nt,s0:=σ}
 have hlk:zap (m0.map fun p=>(p.1,some p.2))=zac m0:=zej _;have hrel1:Rel E1 (X.den ⟨tmA,m0.map (fun p=>(p.1,some p.2)),64⟩) {tmps:=T,defers:=[]} w:=by
  refine⟨σ,I,hsz,rfl,htm,?_,fun b hb=>hlow b hb,hib,fun _ h=>h,fun n h=>.inl h,fun n h=>?_,rfl,rfl,⟨rfl,Nat.le_refl _⟩,Nat.le_refl _,fun _ _ _=>rfl,fun _ _ h=>h,hlow⟩
  ·show RM σ I w (zap _);rw[hlk];exact hrm
  ·have h':Owns σ (zap (m0.map fun p=>(p.1,some p.2))) n:=h;rw[hlk]at h';exact .inl h'
 have hw:=(zev hm hA E1 rfl rfl (fun _ _ _ _ _ _=>trivial)).1 rfl _ w hrel1;simp only[aftI]at hw;refine wpIn_mono hw (fun e a1 w1 hq=>?_);obtain⟨x,hx,rfl,hsub⟩:zjx E1 (fun e x=>e=.normal∧AI.Sub x tmB mB nxB []) e a1 w1:=by
  cases e<;>simpa[aftI]using hq
 obtain⟨σ2,I2,hr2⟩:=Rel.sub hsub hx;have hnb:¬Owns σ (zac m0) L:=zfp hrm hL;have hL1:w1.heap[L]? =some (.loop r):=(hr2.frame L hLlt hnb).trans hL;have hI2:¬I2 L:=fun h=>by
  rcases hr2.inew L h with g|g|g
  ·exact hI g
  ·exact hnb g
  ·have g':w.heap.size≤L:=g;omega
 have hlkB:zap (mB.map fun p=>(p.1,some p.2))=zac mB:=zej _;have hmB:RM σ2 I2 w1 (zac mB):=by rw[←hlkB];exact hr2.mm
 have hnB:¬Owns σ2 (zac mB) L:=zfp hmB hL1;obtain⟨W,hW⟩:∃W,w1.putObj L (.loop {r with state:=.busy})=W:=⟨_,rfl⟩;have hLlt1:L<w1.heap.size:=(Array.getElem?_eq_some_iff.1 hL1).1;have hWo:∀n,n≠L→W.heap[n]? =w1.heap[n]? :=fun n h=>by rw[←hW];exact World.putObj_heap_other h
 have hWL:W.heap[L]? =some (.loop {r with state:=.busy}):=by rw[←hW];exact World.putObj_heap_same hLlt1
 have hWs:W.heap.size=w1.heap.size:=by rw[←hW];simp[World.putObj]
 have hmB':RM σ2 I2 W (zac mB):=by
  refine⟨fun b k hb'=>?_,fun b b' k k' x x' n h1 h2 h3 h4 h5 h6=>hmB.apart b b' k k' x x' n h1 h2 h3 h4 h5 h6⟩;obtain⟨y,hy,hrb,hn⟩:=hmB.blk b k hb';refine⟨y,hy,hrb.mono (fun n h=>hWo n (fun e=>hI2 (e▸h))) (fun _ h=>h) (fun _ _ h=>h) (fun n h=>hWo n (fun e=>?_)),fun n h=>⟨by rw[hWs];exact(hn n h).1,(hn n h).2⟩⟩;subst e;exact hnB ⟨b,k,y,hb',hy,h⟩
 refine⟨W,by rw[←hW];exact run_beginRound hL1 hrs,?_⟩
 let E2:Ctx:={P:=P,w0:=W,bor:=Owns σ2 (zac mB),I0:=I2,nt:=nt,s0:=fun b=>if b<64 then σ2 b else none}
 have hrel2:Rel E2 (X.den ⟨tmB,mB.map (fun p=>(p.1,some p.2)),nxB⟩) a1 W:=by
  refine⟨σ2,I2,hr2.size,hr2.dfs,fun t=>(hr2.tm t).mono (fun n h=>hWo n (fun e=>hI2 (e▸h))) (fun _ h=>h) (fun _ _ h=>h),?_,hr2.free,fun n h=>by rw[hWs];exact hr2.ib n h,fun _ h=>h,fun n h=>.inl h,fun n h=>?_,rfl,rfl,⟨rfl,Nat.le_refl _⟩,Nat.le_refl _,fun _ _ _=>rfl,fun b y hy=>?_,fun b hb'=>?_⟩
  ·show RM σ2 I2 W (zap _);rw[hlkB];exact hmB'
  ·have h':Owns σ2 (zap (mB.map fun p=>(p.1,some p.2))) n:=h;rw[hlkB]at h';exact .inl h'
  ·simp only[E2]at hy;split at hy
   ·exact hy
   ·cases hy
  ·simp only[E2];rw[if_neg (by omega)]
 have hwB:=(zev hm hB E2 rfl rfl (fun _ _ _ _ _ _=>trivial)).1 rfl _ W hrel2;simp only[aftI]at hwB;refine wpIn_mono hwB (fun e a2 w2 hq2=>?_);obtain⟨y,⟨σf,If,hrf⟩,rfl,hfin⟩:zjx E2 (retR m0 m1) e a2 w2:=by
  cases e<;>simpa[aftI]using hq2
 have hL2:w2.heap[L]? =some (.loop {r with state:=.busy}):=(hrf.frame L (by show L<W.heap.size;omega) hnB).trans hWL;refine⟨_,_,run_endRound none hL2,?_⟩;have hre:({{r with state:=.busy}with state:=if(none:Option Code).isNone then .ready else .done,pending:=none}:Loop)=r:=by
  cases r;simp at hrs hrp;subst hrs;subst hrp;rfl
 rw[hre];obtain⟨w3,hw3⟩:∃w3,w2.putObj L (.loop r)=w3:=⟨_,rfl⟩;have hLlt2:L<w2.heap.size:=(Array.getElem?_eq_some_iff.1 hL2).1;have h3o:∀n,n≠L→w3.heap[n]? =w2.heap[n]? :=fun n h=>by rw[←hw3];exact World.putObj_heap_other h
 have h3L:w3.heap[L]? =some (.loop r):=by rw[←hw3];exact World.putObj_heap_same hLlt2
 have h3s:w3.heap.size=w2.heap.size:=by rw[←hw3];simp[World.putObj]
 have h3os:w3.os=w2.os:=by rw[←hw3];rfl
 have h3tape:w3.tape=w2.tape:=by rw[←hw3];rfl
 have h3out:SameOut w3 w2:=by rw[←hw3];exact⟨rfl,Nat.le_refl _⟩
 have hWos:W.os=w1.os:=by rw[←hW];rfl
 have hWtape:W.tape=w1.tape:=by rw[←hW];rfl
 have hWout:SameOut W w1:=by rw[←hW];exact⟨rfl,Nat.le_refl _⟩
 rw[hw3];have hmf:RM σf If w2 (zap y.mm):=hrf.mm;have e2hs:W.heap.size≤w2.heap.size:=hrf.hs;have e1hs:w.heap.size≤w1.heap.size:=hr2.hs;have own2:∀n,Owns σ2 (zac mB) n→Owns σ (zac m0) n∨w.heap.size≤n:=fun n h=>hr2.mine n (by
  show Owns σ2 (zap _) n;rw[hlkB];exact h)
 have hIf:¬If L:=fun h=>by
  rcases hrf.inew L h with g|g|g
  ·exact hI2 g
  ·exact hnB g
  ·have g':W.heap.size≤L:=g;omega
 have hnf:¬Owns σf (zap y.mm) L:=zfp hmf hL2;have up:∀b,b<64→∀z,σ b=some z→σf b=some z:=fun b hb' z hz=>by
  have h2:=hr2.keep b z hz;exact hrf.keep b z (by simp only[E2];rw[if_pos hb'];exact h2)
 have nm:∀b,nmF m0 [] b=true→b<64∧∃k,zac m0 b=some k:=fun b hb'=>by
  simp[nmF,lookN]at hb';exact⟨hb'.1,Option.isSome_iff_exists.1 hb'.2⟩
 have gid:∀b,gf [] b=b:=fun b=>by simp[gf,lookN]
 have down:∀b,nmF m0 [] b=true→∀z,σf (gf [] b)=some z→σ b=some z:=fun b hb' z hz=>by
  obtain⟨h1,k,hk⟩:=nm b hb';obtain⟨z0,hz0,_⟩:=hrm.blk b k hk;have:=up b h1 z0 hz0;rw[gid,this]at hz;rw[hz0];exact hz
 have hblk:∀b k,zac m1 b=some k→∃u,σ b=some u∧σf b=some u∧zap y.mm b=some (k.ren (gf []))∧RB σ If w3 k u∧∀n,hb u=some n→n<w3.heap.size∧¬If n:=by
  intro b k hb';have hmem:=zav hb';have hpo:=hfin.post _ hmem;obtain⟨d1,d2⟩:=hfin.dom _ hmem;simp only[gid]at hpo;obtain⟨u,hu,hrb,hnn⟩:=hmf.blk _ _ hpo;refine⟨u,down b d1 u (by rw[gid];exact hu),hu,hpo,?_,fun n h=>⟨by rw[h3s];exact(hnn n h).1,(hnn n h).2⟩⟩;refine zjs down (hrb.mono (fun n h=>h3o n (fun e=>hIf (e▸h))) (fun _ h=>h) (fun _ _ h=>h) (fun n h=>h3o n (fun e=>?_))) d2;subst e;exact hnf ⟨_,_,_,hpo,hu,h⟩
 have ownf:∀n,Owns σ (zac m1) n→Owns σf (zap y.mm) n:=by
  rintro n ⟨b,k,u,h1,h2,h3⟩;obtain⟨u',g1,g2,g3,_,_⟩:=hblk b k h1;rw[h2]at g1;cases g1;exact⟨b,_,u,g3,g2,h3⟩
 have mine2:∀n,Owns σf (zap y.mm) n→Owns σ (zac m0) n∨w.heap.size≤n:=fun n h=>by
  rcases hrf.mine n h with g|g
  ·exact own2 n g
  ·have g':W.heap.size≤n:=g;exact .inr (by omega)
 refine⟨rfl,If,?_⟩;refine⟨h3os.trans (hrf.os.trans (hWos.trans hr2.os)),h3tape.trans (hrf.tape.trans (hWtape.trans hr2.tape)),h3out.trans (hrf.output.trans (hWout.trans hr2.output)),by omega,fun _ _ h=>h,fun b h1 h2=>absurd h1 h2,fun n h=>hrf.i0 n (hr2.i0 n h),fun n h=>by rw[h3s];exact hrf.ib n h,fun n h=>?_,fun n h1 h2=>?_,⟨fun b k hb'=>?_,fun b b' k k' u u' n q1 q2 q3 q4 q5 q6=>?_⟩,fun b k hb'=>?_,fun n h=>mine2 n (ownf n h)⟩
 ·rcases hrf.inew n h with g|g|g
  ·rcases hr2.inew n g with g|g|g
   ·exact .inl g
   ·exact .inr (.inr g)
   ·exact .inr (.inl g)
  ·rcases own2 n g with g|g
   ·exact .inr (.inr g)
   ·exact .inr (.inl g)
  ·have g':W.heap.size≤n:=g;exact .inr (.inl (by omega))
 ·by_cases e:n=L
  ·subst e;rw[h3L,hL]
  ·rw[h3o n e,hrf.frame n (by show n<W.heap.size;omega) (fun h=>?_),hWo n e]
   ·exact hr2.frame n h1 h2
   ·rcases own2 n h with g|g
    ·exact h2 g
    ·omega
 ·obtain⟨u,g1,g2,g3,g4,g5⟩:=hblk b k hb';exact⟨u,g1,g4,g5⟩
 ·obtain⟨v,g1,g2,g3,g4,g5⟩:=hblk b k q1;obtain⟨v',g1',g2',g3',g4',g5'⟩:=hblk b' k' q2;rw[q3]at g1;cases g1;rw[q4]at g1';cases g1';exact hmf.apart _ _ _ _ _ _ n g3 g3' g2 g2' q5 q6
 ·obtain⟨h1,q,hq'⟩:=nm b (hfin.dom _ (zav hb')).1;left;rw[hq'];simp
theorem zwb {E:Ctx}{w w':World}{σ σf:Names}{I If:Nat→Prop}{a:Act}{y:X}{m0 m1:List (Nat×Blk)}(hw0:E.w0=w)(hbor:E.bor=Owns σ (zac m0))(hI0:E.I0=I)(hs0:E.s0=σ)
  (hrm:RM σ I w (zac m0)) (hrf:RelAt E y.den σf If a w') (hfin:FinOk (zap y.mm) (.d (.v undef)) m0 (.d (.v undef)) m1 []):Post σ I w (zac m0) 64 σ If w' (zac m1):=by
 subst hw0 hI0 hs0;have hmf:RM σf If w' (zap y.mm):=hrf.mm;have nm:∀b,nmF m0 [] b=true→b<64∧∃k,zac m0 b=some k:=fun b hb'=>by
  simp[nmF,lookN]at hb';exact⟨hb'.1,Option.isSome_iff_exists.1 hb'.2⟩
 have gid:∀b,gf [] b=b:=fun b=>by simp[gf,lookN]
 have down:∀b,nmF m0 [] b=true→∀z,σf (gf [] b)=some z→E.s0 b=some z:=fun b hb' z hz=>by
  obtain⟨h1,k,hk⟩:=nm b hb';obtain⟨z0,hz0,_⟩:=hrm.blk b k hk;have:=hrf.keep b z0 hz0;rw[gid,this]at hz;rw[hz0];exact hz
 have hblk:∀b k,zac m1 b=some k→∃u,E.s0 b=some u∧σf b=some u∧zap y.mm b=some (k.ren (gf []))∧RB E.s0 If w' k u∧∀n,hb u=some n→n<w'.heap.size∧¬If n:=by
  intro b k hb';have hmem:=zav hb';have hpo:=hfin.post _ hmem;obtain⟨d1,d2⟩:=hfin.dom _ hmem;simp only[gid]at hpo;obtain⟨u,hu,hrb,hnn⟩:=hmf.blk _ _ hpo;exact⟨u,down b d1 u (by rw[gid];exact hu),hu,hpo,zjs down hrb d2,hnn⟩
 have mine:∀n,Owns σf (zap y.mm) n→Owns E.s0 (zac m0) n∨E.w0.heap.size≤n:=fun n h=>by
  have:=hrf.mine n h
  rwa[hbor]at this
 refine⟨hrf.os,hrf.tape,hrf.output,hrf.hs,fun _ _ h=>h,fun b h1 h2=>absurd h1 h2,fun n h=>hrf.i0 n h,hrf.ib,fun n h=>?_,fun n h1 h2=>hrf.frame n h1 (by rw[hbor];exact h2),⟨fun b k hb'=>?_,fun b b' k k' u u' n q1 q2 q3 q4 q5 q6=>?_⟩,fun b k hb'=>?_,fun n h=>?_⟩
 ·rcases hrf.inew n h with g|g|g
  ·exact .inl g
  ·rw[hbor]at g;exact .inr (.inr g)
  ·exact .inr (.inl g)
 ·obtain⟨u,g1,g2,g3,g4,g5⟩:=hblk b k hb';exact⟨u,g1,g4,g5⟩
 ·obtain⟨v,g1,g2,g3,g4,g5⟩:=hblk b k q1;obtain⟨v',g1',g2',g3',g4',g5'⟩:=hblk b' k' q2;rw[q3]at g1;cases g1;rw[q4]at g1';cases g1';exact hmf.apart _ _ _ _ _ _ n g3 g3' g2 g2' q5 q6
 ·obtain⟨h1,q,hq'⟩:=nm b (hfin.dom _ (zav hb')).1;left;rw[hq'];simp
 ·obtain⟨b,k,u,h1,h2,h3⟩:=h;obtain⟨u',g1,g2,g3,_,_⟩:=hblk b k h1;rw[h2]at g1;cases g1;exact mine n ⟨b,_,u,g3,g2,h3⟩
def IterJ (s0:Names)(L:Nat)(r:Loop):Names→(Nat→Prop)→World→Prop:=fun σ I w=>(∀b x,s0 b=some x→σ b=some x)∧w.heap[L]? =some (.loop r)∧¬I L
theorem IterJ.of_rel {E:Ctx}{s0:Names}{L:Nat}{r:Loop}{m0:List (Nat×Blk)}{I0:Nat→Prop}(hs0:E.s0=s0)(hI0:E.I0=I0)(hbor:E.bor=Owns s0 (zac m0))(hrm:RM s0 I0 E.w0 (zac m0))(hL:E.w0.heap[L]? =some (.loop r))(hI:¬I0 L):
  ∀s σ I a w,RelAt E s σ I a w→IterJ s0 L r σ I w:=by
 intro s σ I a w hr;have hlt:L<E.w0.heap.size:=(Array.getElem?_eq_some_iff.1 hL).1;have hnb:¬E.bor L:=by rw[hbor];exact zfp hrm hL
 refine⟨fun b x h=>hr.keep b x (by rw[hs0];exact h),(hr.frame L hlt hnb).trans hL,fun h=>?_⟩;rcases hr.inew L h with g|g|g
 ·rw[hI0]at g;exact hI g
 ·exact hnb g
 ·omega
def zm9 (m0 m1:List (Nat×Blk)):Eff:=⟨.d (.v (.bool true)),[],m0.map fun p=>(p.1,zac m1 p.1)⟩
theorem zu5 {m0:List (Nat×Blk)}{f:Nat→Option Blk}(b:Nat):zat (m0.map fun p=>(p.1,f p.1)) b=if(zac m0 b).isSome then some (f b)else none:=by
 induction m0 with
 |nil=>simp[zat,zac]
 |cons p m ih=>
  obtain⟨c,k⟩:=p;simp only[List.map_cons,zat,zac];by_cases h:c=b
  ·subst h;simp
  ·simp only[if_neg h];exact ih
theorem qc2 {m0 m1:List (Nat×Blk)}{mem:Mem}(hk:∀b k,zac m0 b=some k→mem b=some k):(zm9 m0 m1).mr mem=zac m0:=by
 funext b
 simp only[Eff.mr,zm9,zu5];cases h:zac m0 b with
 |none=>simp
 |some k=>simpa using hk b k h
theorem qfc {m0 m1:List (Nat×Blk)}{mem:Mem}(hs:∀b k,zac m1 b=some k→(zac m0 b).isSome=true):(zm9 m0 m1).mw mem=zac m1:=by
 funext b
 simp only[Eff.mw,zm9,zu5];cases h:zac m0 b with
 |none=>
  simp only[Option.isSome_none,Bool.false_eq_true,if_false,List.not_mem_nil];cases h1:zac m1 b with
  |none=>rfl
  |some k=>have:=hs b k h1;rw[h]at this;cases this
 |some k=>simp
theorem Post.of_low {σ:Names}{I I':Nat→Prop}{w w':World}{m0 m1:List (Nat×Blk)}{nm:Nat}(hid:∀p∈m1,p.2.ren id=p.2)(h0:∀p∈m0,p.1<64)(h1:∀p∈m1,p.1<64)
  (hs:∀b k,zac m1 b=some k→(zac m0 b).isSome=true)
  (hp:Post (fun b=>if b<64 then σ b else none) I w (zac m0) 64 (fun b=>if b<64 then σ b else none) I' w' (zac m1)):Post σ I w (zac m0) nm σ I' w' (zac m1):=by
 have low:∀b,b<64→∀x,σ b=some x→(fun b=>if b<64 then σ b else none) b=some x:=fun b hb x hx=>by simp only[if_pos hb];exact hx
 have up:∀b x,(fun b=>if b<64 then σ b else none) b=some x→σ b=some x:=fun b x hx=>by
  simp only at hx;split at hx
  ·exact hx
  ·cases hx
 have own:∀(m:List (Nat×Blk)),(∀p∈m,p.1<64)→∀n,Owns σ (zac m) n↔Owns (fun b=>if b<64 then σ b else none) (zac m) n:=fun m hm n=>
  ⟨fun⟨b,k,x,a1,a2,a3⟩=>⟨b,k,x,a1,low b (hm _ (zav a1)) x a2,a3⟩,fun⟨b,k,x,a1,a2,a3⟩=>⟨b,k,x,a1,up b x a2,a3⟩⟩
 refine⟨hp.os,hp.tape,hp.output,hp.size,fun _ _ h=>h,fun b h1 h2=>absurd h1 h2,hp.imono,hp.ib,fun n h=>?_,fun n a1 a2=>hp.frame n a1 (fun h=>a2 ((own m0 h0 n).2 h)),⟨fun b k hb'=>?_,fun b b' k k' u u' n q1 q2 q3 q4 q5 q6=>?_⟩,fun b k hb'=>?_,fun n h=>?_⟩
 ·rcases hp.inew n h with g|g|g
  ·exact .inl g
  ·exact .inr (.inl g)
  ·exact .inr (.inr ((own m0 h0 n).2 g))
 ·obtain⟨u,g1,g2,g3⟩:=hp.mem.blk b k hb';exact⟨u,up b u g1,g2.mono (fun _ _=>rfl) (fun _ h=>h) up (fun _ _=>rfl),g3⟩
 ·exact hp.mem.apart b b' k k' u u' n q1 q2 (low b (h1 _ (zav q1)) u q3) (low b' (h1 _ (zav q2)) u' q4) q5 q6
 ·left;intro h;have:=hs b k hb';rw[h]at this;cases this
 ·rcases hp.mine n ((own m1 h1 n).1 h)with g|g
  ·exact .inl ((own m0 h0 n).2 g)
  ·exact .inr g
theorem RM.to_low {σ:Names}{I:Nat→Prop}{w:World}{m0:List (Nat×Blk)}(h0:∀p∈m0,p.1<64∧inB (fun b=>decide (b<64)) p.2=true∧p.2.ren id=p.2)(h:RM σ I w (zac m0)):RM (fun b=>if b<64 then σ b else none) I w (zac m0):=by
 have low:∀b,b<64→∀x,σ b=some x→(fun b=>if b<64 then σ b else none) b=some x:=fun b hb x hx=>by simp only[if_pos hb];exact hx
 have up:∀b x,(fun b=>if b<64 then σ b else none) b=some x→σ b=some x:=fun b x hx=>by
  simp only at hx;split at hx
  ·exact hx
  ·cases hx
 refine⟨fun b k hb=>?_,fun b b' k k' u u' n q1 q2 q3 q4 q5 q6=>h.apart b b' k k' u u' n q1 q2 (up b u q3) (up b' u' q4) q5 q6⟩;obtain⟨u,g1,g2,g3⟩:=h.blk b k hb;obtain⟨p1,p2,p3⟩:=h0 _ (zav hb);refine⟨u,low b p1 u g1,?_,g3⟩;refine zjs (σ:=σ) (g:=id) (p:=fun b=>decide (b<64)) (fun b hb x hx=>low b (by simpa using hb) x hx) ?_ p2;simp only at p3;rw[p3];exact g2
theorem CI.yield {P:Program}{nt ntA L dp:Nat}{r:Loop}{tmA tmB:List (Nat×AV)}{m0 m1 mB:List (Nat×Blk)}{nxB:Nat}{s0:Names}{R:Exit→X→Prop}{ops:Array Oper}{o:Oper}{rest:List Oper}{i:Nat}{ft:List (List Nat×List Nat)}{draw:Bool}{k:List It}{x:X}{c:Call}{q:Nat}
  (hm:P.follows .mixedOrders=true) (hrs:r.state=.ready) (hrp:r.pending=none) (hsz:r.tmps.size=ntA)
  (hA:CI (some L) (dp-1) (fun _ _ _=>True) P ntA (fun e x=>e=.normal∧AI.Sub x tmB mB nxB []) [.code r.assign] ⟨tmA,m0.map (fun p=>(p.1,some p.2)),64⟩)
  (hB:CI (some L) (dp-1) (fun _ _ _=>True) P ntA (retR m0 m1) [.code r.body] ⟨tmB,mB.map (fun p=>(p.1,some p.2)),nxB⟩)
  (hdst:ze7 nt o.dst=true) (hg:o.guard=none∨∃g wa,o.guard=some (g,wa)∧zhk ops g (zal x.tm)=some wa)
  (ho:o.op=.call c) (hc:c.callee=.value (.tmp q)) (hq:zal x.tm q=.d (.fn (.yield L) [] [])) (hps:c.args.size=r.params.size)
  (hT:∀(σ:Names) (I:Nat→Prop) (w:World) (vs:List Value),(∀b x,s0 b=some x→b<64→σ b=some x)→vs.length=c.args.size→(∀(i:Nat) y v,(c.args.toList.map (ev (zal x.tm)))[i]? =some y→vs[i]? =some v→inA (fun b=>decide (b<64)) y=true→y.ren id=y→RV σ I w y v)→
    ∀t,RV σ I w (zal tmA t) (((r.params.zip vs.toArray).foldl (fun tmps (t,a)=>tmps.setIfInBounds t a) r.tmps).getD t undef))
  (hp0:∀p∈m0,p.1<64∧inB (fun b=>decide (b<64)) p.2=true∧p.2.ren id=p.2) (hp1:∀p∈m1,p.1<64∧p.2.ren id=p.2)
  (hsub:∀p∈m1,(zac m0 p.1).isSome=true) (hk:∀p∈m0,zap x.mm p.1=some p.2)
  (h:CI none dp (IterJ s0 L r) P nt R (.ops ops rest (i+1) (ft++[(zm9 m0 m1).foot]) draw::k) (x.app o.dst (zm9 m0 m1))):CI none dp (IterJ s0 L r) P nt R (.ops ops (o::rest) i ft draw::k) x:=by
 refine .op (zm9 m0 m1) hdst hg ?_ h;have hs:∀b k,zac m1 b=some k→(zac m0 b).isSome=true:=fun b k h=>hsub _ (zav h);have hk':∀b k,zac m0 b=some k→zap x.mm b=some k:=fun b k h=>hk _ (zav h);rw[qc2 hk',qfc hs];intro a w σ I hJ hib hv hrm hfr next Q hnx;obtain⟨hkeep,hL,hI⟩:=hJ;have harg:∀y∈c.args.toList,RV σ I w (ev (zal x.tm) y) (a.eval y):=fun y hy=>zaz fun s e=>hv s (by subst e;simp[ho,Op.operands,Call.operands,hc];exact .inr (by simpa using hy))
 have hf:a.tmps.getD q undef=.func (.yield L) #[] #[]:=by
  have:=hv q (by simp[ho,Op.operands,Call.operands,hc]);rw[hq]at this;generalize a.tmps.getD q undef=z at this;cases this with
  |d h=>cases h with
   | @fn f first captured xs ys hx hy h1 h2=>
     have e1:xs=[]:=List.eq_nil_of_length_eq_zero (by simpa using hx);have e2:ys=[]:=List.eq_nil_of_length_eq_zero (by simpa using hy);subst e1 e2;rfl
 let vs:=c.args.toList.map a.eval
 have hvs:(c.args.map a.eval)=vs.toArray:=by apply Array.ext';simp[vs]
 have hrun:(execOp a.eval o).run P w=.ok (.round L r.fn ((r.params.zip vs.toArray).foldl (fun tmps (t,a)=>tmps.setIfInBounds t a) r.tmps) r.assign r.body) w:=by
  have e0:a.eval (.tmp q)=.func (.yield L) #[] #[]:=hf;have e4:=run_yield (P:=P) (w:=w) (args:=vs.toArray) hL (by simp[vs,hps]);have e5:(#[]:Array Value)++c.args.map a.eval++#[]=vs.toArray:=by rw[hvs];simp
  rw[←e4];simp[execOp,ho,resolve,hc,e0,Deferred.ofValue,invoke,hvs]
 refine⟨fun _ _=>trivial,?_⟩;show Oper.uponIn (FW none) dp P o a next Q ((execOp a.eval o).run P w);rw[hrun,Oper.uponIn_round];refine⟨by simp[FW,Fence.wide],?_⟩;have hlen:vs.length=c.args.size:=by simp[vs]
 let σ1:Names:=fun b=>if b<64 then σ b else none
 have hfold:∀(ps:List (Nat×Value)) (T:Array Value),(ps.foldl (fun tmps (p:Nat×Value)=>tmps.setIfInBounds p.1 p.2) T).size=T.size:=by
  intro ps;induction ps with
  |nil=>intro T;rfl
  |cons p ps ih=>intro T;rw[List.foldl_cons,ih];simp
 have hTsz:((r.params.zip vs.toArray).foldl (fun tmps (t,a)=>tmps.setIfInBounds t a) r.tmps).size=ntA:=by
  rw[←hsz,←Array.foldl_toList];exact hfold _ _
 have hro:=qlo (P:=P) (nt:=ntA) (dp:=dp-1) hm hrs hrp hA hB (T:=(r.params.zip vs.toArray).foldl (fun tmps (t,a)=>tmps.setIfInBounds t a) r.tmps) (w:=w) (σ:=σ1) (I:=I) hib hTsz
  (hT σ1 I w vs (fun b y h1 h2=>by simp only[σ1,if_pos h2];exact hkeep b y h1) hlen (fun i y v h1 h2 h3 h4=>by
    simp only[List.getElem?_map,vs]at h1 h2;obtain⟨z,hz,rfl⟩:=Option.map_eq_some_iff.1 h1;rw[hz]at h2;simp at h2;subst h2;refine zmf (σ:=σ) (g:=id) (p:=fun b=>decide (b<64)) (fun b hb x hx=>by simp only[σ1];rw[if_pos (by simpa using hb)];exact hx) (harg z (List.mem_of_getElem? hz)) h4.symm h3))
  (RM.to_low hp0 hrm) (fun b hb=>by simp only[σ1];rw[if_neg (by omega)]) hL hI
 refine RoundIn.mono hro ?_;rintro e w' ⟨rfl,I',hp⟩;refine hnx _ σ I' w' ?_ (.d (.v _));exact Post.of_low (fun p hp=>(hp1 p hp).2) (fun p hp=>(hp0 p hp).1) (fun p hp=>(hp1 p hp).1) hs hp
theorem zj7 {E:Ctx}{P:Program}{nt dp:Nat}{c d:Code}{x:X}{tm:List (Nat×AV)}{m:List (Nat×Blk)}{nx:Nat}{gv:List Nat}(hm:P.follows .mixedOrders=true)(hP:E.P=P)(hn:E.nt=nt)
  (hc:CI none dp (fun _ _ _=>True) P nt (fun e y=>e=.normal∧AI.Sub y tm m nx gv) [.code c] x) {Q:Exit→Act→World→Prop} {a:Act} {w:World} (hr:Rel E x.den a w)
  (h:∀a' w',Rel E (X.den ⟨tm,m.map (fun p=>(p.1,some p.2)),nx⟩) a' w'→d.wpIn (FW none) dp P Q a' w'):(c.seq d).wpIn (FW none) dp P Q a w:=by
 refine wpIn_seq ?_;subst hP;have hw:=(zev hm hc E rfl hn (fun _ _ _ _ _ _=>trivial)).1 rfl _ w hr;simp only[aftI]at hw;refine wpIn_mono hw (fun e a1 w1 hq=>?_);obtain⟨y,hy,rfl,hsub⟩:zjx E (fun e y=>e=.normal∧AI.Sub y tm m nx gv) e a1 w1:=by
  cases e<;>simpa[aftI]using hq
 exact h a1 w1 (Rel.sub hsub hy)
end Go.AI
section
namespace Go.AI
section
variable {bn : List Nat} {nm : Nat} {args : List AV} {mr m m' : List (Nat × Blk)} {res : AV} {mem : Mem} {G : (Nat → Prop) → World → Prop}
theorem qma {dp:Nat}{P:Program}{o:Oper}{c:Call}{fo:Operand}(ho:o.op=.call c)(hc:c.callee=.value fo)(tm:Nat→AV)(mem:Mem)(nm:Nat){f:FuncId}{first captured:List AV}
  (hf:zdn (ev tm fo)=some (f,first,captured)) (hen:zcz P f) (hct:CtJ G P f args mr m res m') (ha:leA.leL (first++c.args.toList.map (ev tm)++captured) (args.map (AV.ren (renL bn nm)))) (hn:CallNames bn args mr m res m')
  (hk:∀p∈mr++m,mem (renL bn nm p.1)=some (p.2.ren (renL bn nm))):
  zyo none dp (JG G) P o tm ((zdu bn nm mr m res m').mr mem) nm (zdu bn nm mr m res m').res ((zdu bn nm mr m res m').mw mem):=by
 intro a w σ I hG h1 h2 h3 h4 next Q hnx;refine qpg (by simp[zfd,ho]) ?_;obtain⟨vs,hrun,hcall⟩:=zm3 ho hc hf hen hct ha hn hk hG h1 h2 h3 h4;simp only[Oper.wp,hrun,Oper.upon];refine hcall.mono fun e w' ⟨v,σ',I',he,hp,hv⟩=>?_;subst he;exact hnx v σ' I' w' hp hv
end
theorem CI.callJ {G:(Nat→Prop)→World→Prop}{dp:Nat}{P:Program}{nt:Nat}{R:Exit→X→Prop}{ops:Array Oper}{o:Oper}{rest:List Oper}{i:Nat}{ft:List (List Nat×List Nat)}{draw:Bool}{k:List It}{x:X}{c:Call}{fo:Operand}{f:FuncId}{first captured:List AV}{args:List AV}{mr m m':List (Nat×Blk)}{res:AV}(bn:List Nat)
  (hct:CtJ G P f args mr m res m') (hen:zcz P f) (ho:o.op=.call c) (hc:c.callee=.value fo) (hdst:ze7 nt o.dst=true) (hg:o.guard=none∨∃g wa,o.guard=some (g,wa)∧zhk ops g (zal x.tm)=some wa)
  (hf:zdn (ev (zal x.tm) fo)=some (f,first,captured)) (ha:leA.leL (first++c.args.toList.map (ev (zal x.tm))++captured) (args.map (AV.ren (renL bn (x.nx+64*i))))) (hn:CallNames bn args mr m res m')
  (hk:∀p∈mr++m,zap x.mm (renL bn (x.nx+64*i) p.1)=some (p.2.ren (renL bn (x.nx+64*i))))
  (h:CI none dp (JG G) P nt R (.ops ops rest (i+1) (ft++[(zdu bn (x.nx+64*i) mr m res m').foot]) draw::k) (x.app o.dst (zdu bn (x.nx+64*i) mr m res m'))):CI none dp (JG G) P nt R (.ops ops (o::rest) i ft draw::k) x:=
 .op _ hdst hg (qma ho hc _ _ _ hf hen hct ha hn hk) h
section
variable {ro : Option Nat} {dp : Nat} {J : Names → (Nat → Prop) → World → Prop}
end
end Go.AI
open Go.RowKit
namespace Go.AI
theorem CtJ.of_below {G:(Nat→Prop)→World→Prop}{P:Program}{f:FuncId}{args:List AV}{mr:List (Nat×Blk)}{r:Value}
  (h:∀(σ:Names) (I:Nat→Prop) (w:World) (vs:List Value),G I w→(∀n,I n→n<w.heap.size)→vs.length=args.length→(∀(i:Nat) c x,args[i]? =some c→vs[i]? =some x→RV σ I w c x)→RM σ I w (zac mr)→
    Calls P f vs.toArray w fun e w'=>e=.returned r∧Below w.heap.size w w'∧w.drawn≤w'.drawn):CtJ G P f args mr [] (.d (.v r)) []:=by
 intro σ I w vs hG hI hl ha hm hn;rw[List.append_nil]at hm⊢;refine(h σ I w vs hG hI hl ha hm).mono fun e w' ⟨h1,hb,hd⟩=>⟨r,σ,I,h1,?_,.d (.v r)⟩;refine⟨hb.os,hb.tape,⟨hb.output,hd⟩,hb.size,fun _ _ h=>h,fun _ h h'=>absurd h h',fun _ h=>h,fun n hn=>Nat.lt_of_lt_of_le (hI n hn) hb.size,fun _ h=>.inl h,fun n hn _=>hb.block n hn,?_,fun b k h=>.inl (by rw[h];simp),fun n ho=>.inl ho⟩;refine⟨fun b k hb'=>?_,hm.apart⟩;obtain⟨x,h1,h2,h3⟩:=hm.blk b k hb';exact⟨x,h1,h2.mono (fun n hn=>hb.block n (hI n hn)) (fun _ h=>h) (fun _ _ h=>h) (fun n hn=>hb.block n (h3 n hn).1),fun n hn=>⟨Nat.lt_of_lt_of_le (h3 n hn).1 hb.size,(h3 n hn).2⟩⟩
end Go.AI
namespace Go.AI
end Go.AI
namespace Go.AI
theorem CI.opG {ro:Option Nat}{dp:Nat}{J:Names→(Nat→Prop)→World→Prop}{P:Program}{nt:Nat}{R:Exit→X→Prop}{ops:Array Oper}{o:Oper}{rest:List Oper}{i:Nat}{ft:List (List Nat×List Nat)}{draw:Bool}{k:List It}{x:X}(gv:List Nat)(st n:Nat)(hk:zay k=true)(hdst:ze7 nt o.dst=true)(hg:o.guard=none∨∃g wa,o.guard=some (g,wa)∧zhk ops g (zal x.tm)=some wa)
  (hgv:∀b,b∈gv→(zap x.mm b).isSome=true)
  (h:match absC P o (zui gv x) (gvB gv (zap x.mm)) (x.nx+64*i)with
    |some (sc,e)=>sc∧AI.runI ro dp J P nt R st n (.ops ops rest (i+1) (ft++[(zz1 e gv).foot]) draw::k) (x.app o.dst (zz1 e gv))
    |none=>False):CI ro dp J P nt R (.ops ops (o::rest) i ft draw::k) x:=by
 split at h
 ·rename_i sc e hr;exact .op _ hdst hg (OpOk.toI (zsx hr) (OpOk.give gv hgv (zsw hr h.1))) (.runOps st n hk h.2)
 ·exact h.elim
end Go.AI
end
namespace Go.AI
theorem FnOk.bnd {P:Program}{f:FuncId}{args:List AV}{first:List D}{res:AV}(h:Ct P f (first.map .d++args) [] [] res [])(he:zcz P f)(h1:inA.inL (fun b=>decide (b<0)) (first.map .d++args)=true)(h2:inA (nmOk 0) res=true):FnOk P (.d (.fn (.func f) first [])) args res:=
 ⟨f,first.map .d,[],rfl,he,by simpa using h,by simpa using h1,h2⟩
theorem qp7 {σ:Names}{I:Nat→Prop}{w:World}{sz i l:Nat}{es:List (List D)}{T:TypeId}{y v:Value}(hb0:RB σ I w (.grow sz es T) y)(hs:SubSl sz y i l v)(hi:i=0)(hl:l≤es.length):
  (∀σ':Names,RB σ' I w (.grow sz (es.take l) T) v)∧v.oneCell'=true∧∀n,hb v=some n→hb y=some n:=by
 subst hi;cases hs with
 |nil=>exact⟨fun _=>by simpa using RB.none,rfl,fun n h=>h⟩
 |none a=>exact⟨fun _=>by simpa using RB.emp a,rfl,fun n h=>by simp[hb]at h⟩
 | @some n len cap _ _ c hc hlc=>
   cases hb0 with
   |emp=>
    have:c=0:=by omega
    subst this;have:l=0:=by omega
    subst this;exact⟨fun _=>by simpa using RB.emp _,rfl,fun n h=>by simp[hb]at h⟩
   | @grow _ _ _ _ _ arr hw h1 hcap hmax hsz hr=>
     refine⟨fun σ'=>?_,rfl,fun m h=>?_⟩
     ·have e:(es.take l).length=l:=by rw[List.length_take];omega
      have:=RB.grow (σ:=σ') (I:=I) (w:=w) (sz:=sz) (es:=es.take l) (T:=T) (n:=n) (cap:=c) (arr:=arr) hw (Nat.le_trans (Nat.mul_le_mul_right _ (by omega)) h1) (by rw[e];exact hlc) (by omega) (fun e he=>hsz e (List.mem_of_mem_take he))
       (fun i e j c h1 h2=>hr i e j c (by rw[List.getElem?_take]at h1;split at h1<;>simp_all) h2)
      rw[e]at this;simpa using this
     ·cases c with
      |zero=>simp[hb]at h
      |succ c=>
       cases cap with
       |zero=>omega
       |succ cap=>simpa[hb]using h
theorem Ct.trunc {P:Program}{f:FuncId}{args:List AV}{k0:Blk}{sz i:Nat}{es:List (List D)}{T:TypeId}{r:AV}(hr:r=.own 0∧i=es.length∨r=.sl 0 sz 0 i)(hi:i≤es.length)
  (h:Ct P f args [] [(0,k0)] r [(0,.grow sz es T)]):Ct P f args [] [(0,k0)] (.own 64) [(64,.grow sz (es.take i) T)]:=by
 intro σ I w vs hI hl ha hm h64;refine(h σ I w vs hI hl ha hm h64).mono ?_;rintro e w' ⟨v,σ',I',rfl,hp,hv⟩;obtain⟨y,hy,hb0,hbn⟩:=hp.mem.blk 0 _ rfl;have key:(∀σ':Names,RB σ' I' w' (.grow sz (es.take i) T) v)∧v.oneCell'=true∧∀n,hb v=some n→hb y=some n:=by
  rcases hr with⟨rfl,rfl⟩|rfl
  ·cases hv with
   |own h1 h2=>
    rw[hy]at h1;cases h1;refine⟨fun σ''=>?_,h2,fun n h=>h⟩;rw[List.take_length];cases hb0 with
    |none=>exact .none
    |emp a=>exact .emp a
    |grow hw a1 a2 a3 a4 a5=>exact .grow hw a1 a2 a3 a4 a5
  ·cases hv with
   |sl h1 h2=>
    rw[hy]at h1;cases h1;exact qp7 hb0 h2 rfl hi
 obtain⟨k1,k2,k3⟩:=key
 let σ'':Names:=fun b=>if b=64 then some v else if b<64 then σ' b else none
 have e64:σ'' 64=some v:=rfl;refine⟨v,σ'',I',rfl,⟨hp.os,hp.tape,hp.output,hp.size,?_,?_,hp.imono,hp.ib,hp.inew,hp.frame,⟨?_,?_⟩,?_,?_⟩,.own e64 k2⟩
 ·intro b x hb;have:b<64:=by
   rcases Nat.lt_or_ge b 64 with h|h
   ·exact h
   ·rw[h64 b h]at hb;cases hb
  have hne:b≠64:=by omega
  simp only[σ'',if_neg hne,if_pos this];exact hp.names b x hb
 ·intro b hb hn;by_cases h:b=64
  ·subst h;exact⟨Nat.le_refl _,by omega⟩
  ·by_cases h':b<64
   ·simp only[σ'',if_neg h,if_pos h']at hn;exact hp.new b hb hn
   ·simp only[σ'',if_neg h,if_neg h',ne_eq,not_true_eq_false]at hn
 ·intro b k hk;by_cases h:b=64
  ·subst h;simp[zac]at hk;subst hk;exact⟨v,e64,k1 _,fun n hn=>hbn n (k3 n hn)⟩
  ·simp[zac,h]at hk;exfalso;omega
 ·intro b b' k k' x x' n h1 h2 h3 h4 h5 h6;have hb1:b=64:=by
   by_cases h:b=64
   ·exact h
   ·simp[zac,h]at h1;exfalso;omega
  have hb2:b'=64:=by
   by_cases h:b'=64
   ·exact h
   ·simp[zac,h]at h2;exfalso;omega
  rw[hb1,hb2]
 ·intro b k hk;by_cases h:b=64
  ·exact Or.inr ⟨by omega,by omega⟩
  ·simp[zac,h]at hk;exfalso;omega
 ·rintro n ⟨b,k,x,h1,h2,h3⟩;have hb1:b=64:=by
   by_cases h:b=64
   ·exact h
   ·simp[zac,h]at h1;exfalso;omega
  subst hb1;rw[e64]at h2;cases h2;exact hp.mine n ⟨0,_,y,rfl,hy,k3 n h3⟩
theorem CI.seqScope {dp:Nat}{J:Names→(Nat→Prop)→World→Prop}{P:Program}{nt:Nat}{R:Exit→X→Prop}(hm:P.follows .mixedOrders=true)(hp:Plain R){c d:Code}{k:List It}{x:X}(hk:zay k=true)(h:CI none dp J P nt R (.code c:: .code d::k) x):CI none dp J P nt R (.code (.seq c (.scope d))::k) x:=by
 refine CI.cutP hk fun E hP hn hJ a w hr=>?_;have h1:=CI.wp hm h (by simpa[zay,zds]using hk) E hP hn hJ a w hr;refine wp_seq (wp_mono h1 (fun e a w h=>?_));cases e<;>simp only[aftI,Exit.then]at h⊢<;>try exact h
 refine wp_scope_straight (wp_mono ((wpIn_wide (n:=dp)).1 h) (fun e a w h=>?_));cases e<;>simp only[Exit.noGoto]<;>first|exact h|exact absurd h (zu1 (.inl ⟨_,rfl⟩) (hp.1 _) k)
abbrev pan (v:Value):List PanicEntry:=[{v:=v,recovered:=false}]
def CtX (P:Program)(f:FuncId)(args:List AV)(mr m:List (Nat×Blk))(v:Value)(m':List (Nat×Blk)):Prop:=CtF (fun _ _=>True) (fun _=>.panicked (pan v)) P f args mr m .any m'
def panC (v:Value)(m m':List (Nat×Blk)):Exit→X→Prop:=fun e x=>e=.panic (pan v)∧FinOk (zap x.mm) (.d (.v undef)) m (.d (.v undef)) m' []
section
variable {P : Program} {nt : Nat} {R : Exit → X → Prop} {ops : Array Oper} {o : Oper} {rest : List Oper} {i : Nat} {ft : List (List Nat × List Nat)} {k : List It} {x : X} {c : Call} {fo : Operand} {f : FuncId} {fs cap args : List AV} {mr m m' : List (Nat × Blk)} {fn : Func} {cd : Code} {v : Value}
theorem CtX.B (hf:P.funcs[f]? =some fn)(hm:P.follows .mixedOrders=true)(st n:Nat)(h:AI.runI none 0 J0 P fn.ntmps (panC v (mr++m) (mr++m')) st n [.code cd] ⟨zlv 0 args,(mr++m).map (fun p=>(p.1,some p.2)),64⟩)(hb:fn.body=some cd:=by rfl)(hn:args.length≤fn.ntmps:=by simp):CtX P f args mr m v m':=by
 intro σ I w vs _ hib hl hv hrm hfree;refine calls_of_wp hf hb ?_
 let E:Ctx:={P:=P,w0:=w,bor:=Owns σ (zac (mr++m)),I0:=I,nt:=fn.ntmps,s0:=σ}
 refine wp_mono (CI.wp hm (.run st n rfl h) rfl E rfl rfl (fun _ _ _ _ _ _=>trivial) _ w (qbb (E:=E) rfl rfl rfl rfl hn hib hl hv hrm hfree)) (fun e a w' hq=>?_);obtain⟨x,⟨σf,If,hr⟩,rfl,hfin⟩:zjx E (panC v (mr++m) (mr++m')) e a w':=by
  cases e<;>simpa[aftI]using hq
 obtain⟨σ',I',hp,hrv⟩:=qbg (E:=E) rfl rfl rfl rfl hrm hfree hr hfin (.d (.v undef));exact⟨hr.dfs,undef,σ',I',rfl,hp,.any _⟩
theorem CI.up {ro:Option Nat}{dp:Nat}{J:Names→(Nat→Prop)→World→Prop}(bn:List Nat)(hct:CtX P f args mr m v m')(hen:zcz P f)(h:R (.panic (pan v)) ⟨x.tm,(zdu bn (x.nx+64*i) mr m .any m').wr++x.mm,x.nx+64*(i+1)⟩)
  (ho:o.op=.call c:=by rfl) (hc:c.callee=.value fo:=by rfl) (hg:o.guard=none:=by rfl) (hf:zdn (ev (zal x.tm) fo)=some (f,fs,cap):=by rfl)
  (ha:leA.leL (fs++c.args.toList.map (ev (zal x.tm))++cap) (args.map (AV.ren (renL bn (x.nx+64*i)))):=by simp) (hn:CallNames bn args mr m .any m':=by constructor<;>simp[nmOk])
  (hk:∀p∈mr++m,zap x.mm (renL bn (x.nx+64*i) p.1)=some (p.2.ren (renL bn (x.nx+64*i))):=by simp):CI ro dp J P nt R (.ops ops (o::rest) i ft false::k) x:=by
 refine .opPan _ (pan v) hg (by simp[zfd,ho]) (fun E s a w hP hn' ht hm' hfr hr next Q hQ=>?_) h;obtain⟨σ,I,hr⟩:=hr;subst hP;obtain⟨vs,hrun,hcall⟩:=zm3 (a:=a) (w:=w) (nm:=x.nx+64*i) ho hc (tm:=s.tm) (mem:=s.mm) (by rw[ht];exact hf) hen hct (by rw[ht];exact ha) hn (by rw[hm'];exact hk) trivial hr.ib (fun t _=>hr.tm t) (hr.mm.sub Eff.mr_sub) (fun b hb=>hr.free b (hfr b hb.1));simp only[Oper.wp,hrun,Oper.upon];refine hcall.mono fun e w' ⟨v',σ',I',he,hp,hv⟩=>?_;subst he;have h':=hr.step (dst:=none) Eff.mr_sub hp hv (fun _ h=>by cases h);rw[←S.app_eq_step]at h';refine hQ a w' (Rel.fr ⟨σ',I',h'⟩ ?_ ?_ fun b hb=>?_)
 ·funext t;simp[X.den,S.app,ht]
 ·funext b;simp only[X.den,S.app,znr,hm']
 ·have hb':x.nx+64*(i+1)≤b:=hb;exact⟨hfr b (by omega),fun hf=>by have:=hf.2;omega⟩
end
theorem RM.moved {σ:Names}{I:Nat→Prop}{w w':World}{m:Mem}(hm:RM σ I w m)(hs:w.heap.size≤w'.heap.size)(h:∀n,I n∨Owns σ m n→w'.heap[n]? =w.heap[n]?):RM σ I w' m:=by
 refine⟨fun b k hb'=>?_,hm.apart⟩;obtain⟨x,h1,h2,h3⟩:=hm.blk b k hb';exact⟨x,h1,h2.mono (fun n hn=>h n (.inl hn)) (fun _ h=>h) (fun _ _ h=>h) (fun n hn=>h n (.inr ⟨b,k,x,hb',h1,hn⟩)),fun n hn=>⟨Nat.lt_of_lt_of_le (h3 n hn).1 hs,(h3 n hn).2⟩⟩
theorem zne (w:World)(a:Addr)(v:Value){n:Nat}(h:n≠a.block):(w.setCell a v).heap[n]? =w.heap[n]? :=by
 simp only[World.setCell,Array.getElem?_modify];rw[if_neg (fun e=>h e.symm)]
theorem zwc {σ σ':Names}{I I':Nat→Prop}{w w':World}{m m':Mem}{x v:Value}{T:TypeId}(hrm:RM σ I w m)(hib:∀n,I n→n<w.heap.size)(hp:Post σ I (w.alloc (.cells #[x] T)) m 64 σ' I' w' m'):
  Post σ I w m 64 σ' I' (w'.setCell ⟨w.heap.size,0,none⟩ v) m'∧w'.cell? ⟨w.heap.size,0,none⟩=some x∧w'.frozen? ⟨w.heap.size,0,none⟩=false:=by
 have hsz:(w.alloc (.cells #[x] T)).heap.size=w.heap.size+1:=by simp
 have own:¬Owns σ m w.heap.size:=by
  rintro⟨b,k,y,h1,h2,h3⟩;obtain⟨y',h4,_,h5⟩:=hrm.blk b k h1;rw[h2]at h4;cases h4;have:=(h5 _ h3).1;omega
 have hI:¬I' w.heap.size:=fun h=>by
  rcases hp.inew _ h with h|h|h
  ·have:=hib _ h;omega
  ·omega
  ·exact own h
 have own':¬Owns σ' m' w.heap.size:=fun h=>by
  rcases hp.mine _ h with h|h
  ·exact own h
  ·omega
 have hh:w'.heap[w.heap.size]? =some (.cells #[x] T (0,0)):=by
  rw[hp.frame _ (by omega) own];exact heap_alloc_new w _
 have s1:(w'.setCell ⟨w.heap.size,0,none⟩ v).heap.size=w'.heap.size:=by simp[World.setCell]
 have s2:=hp.size;refine⟨⟨hp.os,hp.tape,⟨hp.output.eq,hp.output.drawn⟩,by omega,hp.names,hp.new,hp.imono,fun n h=>by rw[s1];exact hp.ib n h,fun n h=>?_,fun n h1 h2=>?_,?_,hp.dom,fun n h=>?_⟩,by simp[World.cell?,hh],by simp[World.frozen?,hh]⟩
 ·rcases hp.inew n h with h|h|h
  ·exact .inl h
  ·exact .inr (.inl (by omega))
  ·exact .inr (.inr h)
 ·rw[zne _ _ _ (by show n≠w.heap.size;omega),hp.frame n (by omega) h2];exact heap_alloc_old w _ h1
 ·refine hp.mem.moved (by omega) fun n h=>zne _ _ _ ?_;rintro rfl;rcases h with h|h
  ·exact hI h
  ·exact own' h
 ·rcases hp.mine n h with h|h
  ·exact .inl h
  ·exact .inr (by omega)
theorem nT {b:Bool}:((!b)=true)=(b=false):=by cases b<;>simp
theorem nF {b:Bool}:((!b)=false)=(b=true):=by cases b<;>simp
theorem dT {p:Prop} [Decidable p]:(decide p=true)=p:=decide_eq_true_eq
theorem dF {p:Prop} [Decidable p]:(decide p=false)=¬p:=propext decide_eq_false_iff_not
theorem inL {α:Type}{l:List α}{k:Nat}(h:k<l.length):∃x,l[k]=x∧l[k]? =some x∧x∈l∧l.take (k+1)=l.take k++[x]∧l.drop k=x::l.drop (k+1):=
 ⟨_,rfl,List.getElem?_eq_getElem h,List.getElem_mem h,by rw[List.take_add_one,List.getElem?_eq_getElem h];rfl,List.drop_eq_getElem_cons h⟩
theorem wr {k:Nat}(h:(k:Int)+1≤9223372036854775807):IntKind.wrap .i64 ((k:Int)+1)=k+1:=zab (by omega) h
abbrev Up {α:Type}(l:List α):Type:={k:Nat//k≤l.length}
section
variable {P : Program} {nt : Nat} {R : Exit → X → Prop} {ops : Array Oper} {o : Oper} {rest : List Oper} {i : Nat} {ft : List (List Nat × List Nat)} {d : Bool} {k : List It} {x : X} {c : Call} {fo : Operand} {f : FuncId} {fs cap args : List AV} {mr m m' : List (Nat × Blk)} {res kf : AV} {fn : Func} {cd : Code}
theorem Ct.B (hf:P.funcs[f]? =some fn)(hm:P.follows .mixedOrders=true)(st n:Nat)(h:AI.runI none 0 J0 P fn.ntmps (retC P fn (mr++m) res (mr++m')) st n [.code cd] ⟨zlv 0 args,(mr++m).map (fun p=>(p.1,some p.2)),64⟩)(hb:fn.body=some cd:=by rfl)(hn:args.length≤fn.ntmps:=by simp):Ct P f args mr m res m':=
 .of_body hf hb hm hn (.run st n rfl h)
theorem CtJ.B {G:(Nat→Prop)→World→Prop}(hG:qt7 G)(hf:P.funcs[f]? =some fn)(hm:P.follows .mixedOrders=true)(st n:Nat)(h:AI.runI none 0 (JG G) P fn.ntmps (retC P fn (mr++m) res (mr++m')) st n [.code cd] ⟨zlv 0 args,(mr++m).map (fun p=>(p.1,some p.2)),64⟩)(hb:fn.body=some cd:=by rfl)(hn:args.length≤fn.ntmps:=by simp):CtJ G P f args mr m res m':=
 .of_body hG hf hb hm hn (.run st n rfl h)
theorem LoopI.U {ro:Option Nat}{dp:Nat}{J:Names→(Nat→Prop)→World→Prop}(hm:P.follows .mixedOrders=true){α:Type}(l:List α)(tm:Up l→List (Nat×AV))(mm:Up l→List (Nat×Blk))(nx:Nat)(gv:List Nat)(h0:Sub x (tm ⟨0,Nat.zero_le _⟩) (mm ⟨0,Nat.zero_le _⟩) nx gv)
  (step:∀i (B:X→Prop),(∀x j gv,Sub x (tm j) (mm j) nx gv→l.length-j.1<l.length-i.1→B x)→CI ro dp J P nt R (.code cd:: .stop B::k) ⟨tm i,(mm i).map (fun p=>(p.1,some p.2)),nx⟩) (hk:zay k=true:=by rfl):LoopI ro dp J P nt R cd k x:=
 .inv hm hk tm mm nx (fun i=>l.length-i.1) _ gv h0 step
section
variable {ro : Option Nat} {dp : Nat} {J : Names → (Nat → Prop) → World → Prop}
theorem CI.p (hct:Ct P f args [] [] res [])(hen:zcz P f)(st:Nat)(h:AI.runI ro dp J P nt R st 400 (.ops ops rest (i+1) (ft++[([],[])]) d::k) ⟨putT o.dst (res.ren (renL [] (x.nx+64*i))) x.tm,x.mm,x.nx⟩)
  (ho:o.op=.call c:=by rfl) (hc:c.callee=.value fo:=by rfl) (hd:ze7 nt o.dst=true:=by rfl) (hg:o.guard=none∨∃g wa,o.guard=some (g,wa)∧zhk ops g (zal x.tm)=some wa:=by first|exact .inl rfl|exact .inr ⟨_,_,rfl,by simp⟩|exact .inr ⟨_,_,rfl,by simp[*]⟩)
  (hf:zdn (ev (zal x.tm) fo)=some (f,fs,cap):=by rfl) (ha:leA.leL (fs++c.args.toList.map (ev (zal x.tm))++cap) (args.map (AV.ren (renL [] (x.nx+64*i)))):=by simp) (hk:zay k=true:=by rfl)
  (h1:inA.inL (fun b=>decide (b<0)) args=true:=by rfl) (h2:inA (nmOk 0) res=true:=by rfl):CI ro dp J P nt R (.ops ops (o::rest) i ft d::k) x:=
 .callP hct hen ho hc hd hg hf ha h1 h2 (.runOps st 400 hk h)
theorem CI.cc (bn:List Nat)(hct:Ct P f args mr m res m')(hen:zcz P f)(st:Nat)(h:AI.runI ro dp J P nt R st 400 (.ops ops rest (i+1) (ft++[(zdu bn (x.nx+64*i) mr m res m').foot]) d::k) (x.app o.dst (zdu bn (x.nx+64*i) mr m res m')))
  (ho:o.op=.call c:=by rfl) (hc:c.callee=.value fo:=by rfl) (hd:ze7 nt o.dst=true:=by rfl) (hg:o.guard=none∨∃g wa,o.guard=some (g,wa)∧zhk ops g (zal x.tm)=some wa:=by first|exact .inl rfl|exact .inr ⟨_,_,rfl,by simp⟩|exact .inr ⟨_,_,rfl,by simp[*]⟩)
  (hf:zdn (ev (zal x.tm) fo)=some (f,fs,cap):=by rfl) (ha:leA.leL (fs++c.args.toList.map (ev (zal x.tm))++cap) (args.map (AV.ren (renL bn (x.nx+64*i)))):=by simp) (hn:CallNames bn args mr m res m':=by constructor<;>simp[nmOk])
  (hk:∀p∈mr++m,zap x.mm (renL bn (x.nx+64*i) p.1)=some (p.2.ren (renL bn (x.nx+64*i))):=by simp) (hl:zay k=true:=by rfl):CI ro dp J P nt R (.ops ops (o::rest) i ft d::k) x:=
 .callC bn hct hen ho hc hd hg hf ha hn hk (.runOps st 400 hl h)
theorem CI.g (gv bn:List Nat)(hct:Ct P f args mr m res m')(hen:zcz P f)(st:Nat)(h:AI.runI ro dp J P nt R st 400 (.ops ops rest (i+1) (ft++[(zz1 (zdu bn (x.nx+64*i) mr m res m') gv).foot]) d::k) (x.app o.dst (zz1 (zdu bn (x.nx+64*i) mr m res m') gv)))
  (ho:o.op=.call c:=by rfl) (hc:c.callee=.value fo:=by rfl) (hd:ze7 nt o.dst=true:=by rfl) (hg:o.guard=none∨∃g wa,o.guard=some (g,wa)∧zhk ops g (zal x.tm)=some wa:=by first|exact .inl rfl|exact .inr ⟨_,_,rfl,by simp⟩|exact .inr ⟨_,_,rfl,by simp[*]⟩)
  (hf:zdn (ev (zui gv x) fo)=some (f,fs,cap):=by rfl) (ha:leA.leL (fs++c.args.toList.map (ev (zui gv x))++cap) (args.map (AV.ren (renL bn (x.nx+64*i)))):=by simp[zui]) (hn:CallNames bn args mr m res m':=by constructor<;>simp[nmOk])
  (hk:∀p∈mr++m,gvB gv (zap x.mm) (renL bn (x.nx+64*i) p.1)=some (p.2.ren (renL bn (x.nx+64*i))):=by simp[gvB]) (hv:∀b,b∈gv→(zap x.mm b).isSome=true:=by simp) (hl:zay k=true:=by rfl):CI ro dp J P nt R (.ops ops (o::rest) i ft d::k) x:=
 .callG gv bn hct hen ho hc hd hg hf ha hn hk hv (.runOps st 400 hl h)
theorem CI.ff (h0:FnOk P kf args res)(ho:o.op=.call c)(hc:c.callee=.value fo)(hf:ev (zal x.tm) fo=kf)(st:Nat)(h:AI.runI ro dp J P nt R st 400 (.ops ops rest (i+1) (ft++[([],[])]) d::k) ⟨putT o.dst (res.ren (renL [] (x.nx+64*i))) x.tm,x.mm,x.nx⟩)
  (hd:ze7 nt o.dst=true:=by rfl) (hg:o.guard=none∨∃g wa,o.guard=some (g,wa)∧zhk ops g (zal x.tm)=some wa:=by first|exact .inl rfl|exact .inr ⟨_,_,rfl,by simp⟩|exact .inr ⟨_,_,rfl,by simp[*]⟩)
  (ha:leA.leL (c.args.toList.map (ev (zal x.tm))) args:=by simp) (hk:zay k=true:=by rfl):CI ro dp J P nt R (.ops ops (o::rest) i ft d::k) x:=
 .callF h0 ho hc hd hg hf ha (.runOps st 400 hk h)
theorem CI.s {tm:List (Nat×AV)}{mm:List (Nat×Blk)}{nx:Nat}(g:List (Nat×Nat))(gv:List Nat)(hs:SubOk x tm mm nx g gv)(h:CI ro dp J P nt R k ⟨tm,mm.map (fun p=>(p.1,some p.2)),nx⟩)(hk:zay k=true:=by rfl):CI ro dp J P nt R k x:=.sub g gv hk hs h
theorem sBI {st n:Nat}{t:Bool}{a b:Code}(h1:t=true→AI.runI ro dp J P nt R st n (.br (.d (.v (.bool true))) a b::k) x)(h2:t=false→AI.runI ro dp J P nt R st n (.br (.d (.v (.bool false))) a b::k) x):AI.runI ro dp J P nt R st n (.br (.d (.v (.bool t))) a b::k) x:=ztm h1 h2
theorem sGI {st n:Nat}{t wa:Bool}(h1:t=true→AI.runI ro dp J P nt R st n (.gd (.d (.v (.bool true))) wa ops o rest i ft d::k) x)(h2:t=false→AI.runI ro dp J P nt R st n (.gd (.d (.v (.bool false))) wa ops o rest i ft d::k) x):AI.runI ro dp J P nt R st n (.gd (.d (.v (.bool t))) wa ops o rest i ft d::k) x:=ztl h1 h2
variable {G : (Nat → Prop) → World → Prop}
theorem CI.j (bn:List Nat)(hct:CtJ G P f args mr m res m')(hen:zcz P f)(st:Nat)(h:AI.runI none dp (JG G) P nt R st 400 (.ops ops rest (i+1) (ft++[(zdu bn (x.nx+64*i) mr m res m').foot]) d::k) (x.app o.dst (zdu bn (x.nx+64*i) mr m res m')))
  (ho:o.op=.call c:=by rfl) (hc:c.callee=.value fo:=by rfl) (hd:ze7 nt o.dst=true:=by rfl) (hg:o.guard=none∨∃g wa,o.guard=some (g,wa)∧zhk ops g (zal x.tm)=some wa:=by first|exact .inl rfl|exact .inr ⟨_,_,rfl,by simp⟩|exact .inr ⟨_,_,rfl,by simp[*]⟩)
  (hf:zdn (ev (zal x.tm) fo)=some (f,fs,cap):=by rfl) (ha:leA.leL (fs++c.args.toList.map (ev (zal x.tm))++cap) (args.map (AV.ren (renL bn (x.nx+64*i)))):=by simp) (hn:CallNames bn args mr m res m':=by constructor<;>simp[nmOk])
  (hk:∀p∈mr++m,zap x.mm (renL bn (x.nx+64*i) p.1)=some (p.2.ren (renL bn (x.nx+64*i))):=by simp) (hl:zay k=true:=by rfl):CI none dp (JG G) P nt R (.ops ops (o::rest) i ft d::k) x:=
 .callJ bn hct hen ho hc hd hg hf ha hn hk (.runOps st 400 hl h)
end
end
theorem arrK {P:Program}{t:TypeId}{ti:TI}{n E:Nat}(h:tiOf P t=some ti)(hk:ti.k=.arr n E):P.underlying t=some (.array n E):=by
 obtain⟨i,d,z,hi,hd,hz,rfl⟩:=zah h;rw[hd];simp only at hk;cases d<;>simp[kOf]at hk;obtain⟨rfl,rfl⟩:=hk;rfl
theorem qvs {P:Program}{o:Oper}{T E:TypeId}{xo:Operand}{n:Nat}{ti te:TI}(ho:o.op=.slice T xo none none none)(hT:tiOf P T=some ti)(hk:ti.k=.arr n E)(hE:tiOf P E=some te)(hs:te.sz=1){tm:Nat→AV}{m:Mem}{nm:Nat}{cs:List D}
  (hx:ev tm xo=.d (.pro cs)) (h0:0<n) (hn:n≤cs.length) (hm:n≤1000):OpOk P o tm m nm (.d (.ro true ((cs.take n).map fun c=>[c]))) m:=by
 refine OpOk.pure fun a w σ I h _=>?_;have hv:=zaz (σ:=σ) (I:=I) (w:=w) (tm:=tm) (a:=a) (x:=xo) fun s e=>h s (by simp[ho,Op.operands,e])
 rw[hx]at hv;have hu:=arrK hT hk;have hl:((cs.take n).map fun c=>[c]).length=n:=by rw[List.length_map,List.length_take];omega
 generalize hy:a.eval xo=y at hv;cases hv with
 |d hd=>cases hd with
  | @pro _ blk off val hI hc hr h1=>
    have hb:=zb5 (P:=P) (w:=w) (isS:=false) (len:=n) (cap:=n) (lo:=none) (hi:=none) (mx:=none) (.inl ⟨rfl,rfl⟩) (.inl ⟨rfl,rfl⟩) (.inl ⟨rfl,rfl⟩) ⟨by simp,by simp,by simp,trivial⟩ (fun h=>absurd rfl h) (Nat.le_refl _);have hn0:¬n=0:=by omega
    refine⟨.slice (some ⟨blk,off,none⟩) n n,?_,.d ?_⟩
    ·simp only[mxN,Option.getD_none,Int.toNat_zero,Int.toNat_natCast]at hb;simp[execOp,ho,hy,Instr.sliceAt,run_underlying hu,zan hE,Instr.sureAddr,hb,hn0,zby]
    ·have hg:∀(i:Nat) e (j:Nat) c,((cs.take n).map fun c=>[c])[i]? =some e→e[j]? =some c→j=0∧cs[i]? =some c:=by
      intro i e j c h1 h2;rw[List.getElem?_map,List.getElem?_take]at h1;split at h1
      ·obtain⟨c',h3,rfl⟩:=Option.map_eq_some_iff.1 h1;cases j with
       |zero=>simp at h2;subst h2;exact⟨rfl,h3⟩
       |succ j=>simp at h2
      ·simp at h1
     have:=RD.ro (I:=I) (w:=w) (sz:=1) (fc:=true) (es:=(cs.take n).map fun c=>[c]) (blk:=blk) (off:=off) (cap:=n) (fun i j=>val (i+j)) hI (fun e he=>by obtain⟨c,_,rfl⟩:=List.mem_map.1 he;rfl) (by omega) (by simp[maxLen];omega) (fun _=>hl.symm)
      (fun i e j c he hcc=>by obtain⟨rfl,h3⟩:=hg i e j c he hcc;simpa using hc i c h3)
      (fun i e j c he hcc=>by obtain⟨rfl,h3⟩:=hg i e j c he hcc;simpa using hr i c h3)
      (fun i e j c he hcc=>by obtain⟨rfl,h3⟩:=hg i e j c he hcc;simpa using h1 i c h3)
     rwa[hl]at this
theorem CI.arr {ro:Option Nat}{dp:Nat}{J:Names→(Nat→Prop)→World→Prop}{P:Program}{nt:Nat}{R:Exit→X→Prop}{ops:Array Oper}{o:Oper}{rest:List Oper}{i:Nat}{ft:List (List Nat×List Nat)}{d:Bool}{k:List It}{x:X}{T E:TypeId}{xo:Operand}{n:Nat}{ti te:TI}{cs:List D}(hT:tiOf P T=some ti)(hE:tiOf P E=some te)(st:Nat)
  (h:AI.runI ro dp J P nt R st 400 (.ops ops rest (i+1) (ft++[([],[])]) d::k) ⟨putT o.dst (.d (.ro true ((cs.take n).map fun c=>[c]))) x.tm,x.mm,x.nx⟩)
  (ho:o.op=.slice T xo none none none:=by rfl) (hk:ti.k=.arr n E:=by rfl) (hs:te.sz=1:=by rfl) (hx:ev (zal x.tm) xo=.d (.pro cs):=by rfl) (h0:0<n:=by decide) (hn:n≤cs.length:=by simp) (hm:n≤1000:=by decide) (hd:ze7 nt o.dst=true:=by rfl)
  (hg:o.guard=none∨∃g wa,o.guard=some (g,wa)∧zhk ops g (zal x.tm)=some wa:=by first|exact .inl rfl|exact .inr ⟨_,_,rfl,by simp⟩|exact .inr ⟨_,_,rfl,by simp[*]⟩) (hc:zay k=true:=by rfl):CI ro dp J P nt R (.ops ops (o::rest) i ft d::k) x:=
 .op ⟨_,[],[]⟩ hd hg ((qvs ho hT hk hE hs hx h0 hn hm).toI (by simp[zfd,ho])) (.runOps st 400 hc h)
theorem Ct.data {P:Program}{f:FuncId}{args:List AV}{sz:Nat}{es:List (List D)}{T:TypeId}(h:Ct P f args [] [] (.own 64) [(64,.grow sz es T)]):Ct P f args [] [] (.d (.ro false es)) []:=by
 intro σ I w vs hI hl ha hm h64;refine(h σ I w vs hI hl ha hm h64).mono ?_;rintro e w' ⟨v,σ',I',rfl,hp,hv⟩;have hr:=zla (kp:=fun _=>false) hp.mem 8 hv;have e1:prA (fun _=>false) (zac ([]++[(64,.grow sz es T)])) 8 (.own 64)=.d (.ro false es):=by simp[prA,zac]
 rw[e1]at hr;refine⟨v,σ',_,rfl,⟨hp.os,hp.tape,hp.output,hp.size,hp.names,hp.new,fun n h=>.inl (hp.imono n h),?_,?_,hp.frame,⟨fun b k h=>by simp[zac]at h,fun b b' k k' x x' n h=>by simp[zac]at h⟩,fun b k h=>by simp[zac]at h,?_⟩,hr⟩
 ·rintro n (h|⟨b,_,b',k,x,h0,h1,h2,h3⟩)
  ·exact hp.ib n h
  ·obtain⟨y,hy,_,hn⟩:=hp.mem.blk _ _ h1;rw[hy]at h2;cases h2;exact(hn n h3).1
 ·rintro n (h|⟨b,_,b',k,x,h0,h1,h2,h3⟩)
  ·exact hp.inew n h
  ·rcases hp.mine n ⟨b',k,x,h1,h2,h3⟩with g|g
   ·exact .inr (.inr g)
   ·exact .inr (.inl g)
 ·rintro n ⟨b,k,x,h,_⟩;simp[zac]at h
def qog (R:Exit→X→Prop)(l:Nat)(B:X→Prop):Exit→X→Prop
 |.goto l',x=>l'=l∧B x
 |e,x=>R e x
@[simp] theorem JumpR_ret (R:Exit→X→Prop)(l:Nat)(B:X→Prop)(x:X):qog R l B .ret x=R .ret x:=rfl
@[simp] theorem JumpR_normal (R:Exit→X→Prop)(l:Nat)(B:X→Prop)(x:X):qog R l B .normal x=R .normal x:=rfl
@[simp] theorem JumpR_goto (R:Exit→X→Prop)(l l':Nat)(B:X→Prop)(x:X):qog R l B (.goto l') x=(l'=l∧B x):=rfl
theorem qv9 (S:Nat→Prop):∀n,S n→∃m,S m∧∀k,S k→m≤k:=by
 intro n;induction n using Nat.strongRecOn with
 |_ n ih=>
  intro h;by_cases e:∃k,k<n∧S k
  ·obtain⟨k,h1,h2⟩:=e;exact ih k h1 h2
  ·exact⟨n,h,fun k hk=>Nat.le_of_not_lt fun hlt=>e ⟨k,hlt,hk⟩⟩
theorem CI.jumps {dp:Nat}{J:Names→(Nat→Prop)→World→Prop}{P:Program}{nt:Nat}{R:Exit→X→Prop}{x:X}(hm:P.follows .mixedOrders=true)(hp:Plain R){pre rest:Code}{l:Nat}{ι:Type}(tm:ι→List (Nat×AV))(m:ι→List (Nat×Blk))(nx:Nat)(μ:ι→Nat)(i0:ι)(hpre:findLabel pre l=none)
  (first:∀B:X→Prop,(∀x gv,Sub x (tm i0) (m i0) nx gv→B x)→CI none dp J P nt R [.code pre,.stop B] x)
  (step:∀i (B:X→Prop),(∀x j gv,Sub x (tm j) (m j) nx gv→μ j<μ i→B x)→CI none dp J P nt (qog R l B) [.code rest] ⟨tm i,(m i).map (fun p=>(p.1,some p.2)),nx⟩):CI none dp J P nt R [.code (.scope (.seq pre (.seq (.label l) rest)))] x:=by
 classical
 refine CI.cutP rfl fun E hP hn hJ a w hr=>?_;subst hP
 let fam:ι→X:=fun i=>⟨tm i,(m i).map (fun p=>(p.1,some p.2)),nx⟩
 have pass0:∀i a w,Rel E (fam i).den a w→rest.wp E.P (Exit.jump l (fun a' w'=>∃j,Rel E (fam j).den a' w'∧μ j<μ i) (zjx E R)) a w:=by
  intro i a w hr;have:=CI.wp hm (step i (fun y=>∃j gv,Sub y (tm j) (m j) nx gv∧μ j<μ i) (fun x j gv hs hlt=>⟨j,gv,hs,hlt⟩)) rfl E rfl hn hJ a w hr;refine wp_mono this fun e a w h=>?_;cases e with
  |goto l'=>
   obtain⟨y,hy,rfl,j,gv,hs,hlt⟩:=h;exact⟨rfl,j,Rel.sub hs hy,hlt⟩
  |_=>
   obtain⟨y,hy,hr⟩:=h;exact⟨y,hy,hr⟩
 let S:Act→World→Nat→Prop:=fun a w n=>∃j,Rel E (fam j).den a w∧μ j=n
 have h1:=CI.wp hm (first (fun y=>∃gv,Sub y (tm i0) (m i0) nx gv) (fun x gv hs=>⟨gv,hs⟩)) rfl E rfl hn hJ a w hr;refine wp_scope_jumps (rest:=.seq .skip rest) l (fun a w=>∃j,Rel E (fam j).den a w) (fun a w=>if h:∃m,S a w m∧∀k,S a w k→m≤k then Classical.choose h else 0) (by simp[findLabel,hpre]) ?_ ?_
 ·refine wp_seq (wp_mono h1 fun e a w h=>?_);cases e with
  |normal=>
   simp only[aftI]at h;obtain⟨y,hy,gv,hs⟩:=h;refine wp_seq (wp_label ?_);refine wp_mono (pass0 i0 a w (Rel.sub hs hy)) fun e a w h=>?_;cases e with
   |goto l'=>exact⟨h.1,h.2.imp fun j hj=>hj.1⟩
   |_=>exact h
  |goto l'=>exact absurd h (by simp only[aftI];exact fun⟨y,_,hr⟩=>hp.1 _ _ hr)
  |_=>simp only[aftI]at h;exact h
 ·rintro a w ⟨j0,hj0⟩;have hex:=qv9 (S a w) (μ j0) ⟨j0,hj0,rfl⟩;obtain⟨⟨j,hj,hmj⟩,hmin⟩:=Classical.choose_spec hex;refine wp_seq (wp_skip ?_);refine wp_mono (pass0 j a w hj) fun e a' w' h=>?_;cases e with
  |goto l'=>
   obtain⟨e1,j',hj',hlt⟩:=h;have hex':=qv9 (S a' w') (μ j') ⟨j',hj',rfl⟩;refine⟨e1,⟨j',hj'⟩,?_⟩;simp only[dif_pos hex,dif_pos hex'];have:=(Classical.choose_spec hex').2 (μ j') ⟨j',hj',rfl⟩;omega
  |_=>exact h
open Go.Lib Go.Sort Go.Shelf Go.RowKit Go.Proofs
def qc1 (P:Program)(f:FuncId)(sz:Nat)(TS:TypeId):Prop:=
 ∀(blk cap k len:Nat) (news:List Value) (w W2:World),k<len→len≤cap→cap≤9223372036854775807→
  ∀(A:Addr),(if cap=k+1 then some (⟨blk,0,none⟩:Addr)else some ⟨blk,(k+1)*sz,none⟩)=some A→
  Hid (∀t u,news[t]? =some u→w.drew.cell? (A.add t)=some u)→Hid (news.length=(len-(k+1))*sz)→Hid (∀u∈news,u.oneCell'=true)→
  Hid (∀t,t<news.length→(w.drew.cell? ⟨blk,0+k*sz+t,none⟩).isSome=true∧w.drew.frozen? ⟨blk,0+k*sz+t,none⟩=false)→
  (∀ty,(Builtin.clear_ #[TS] ty #[.slice (some ⟨blk,(k+(len-(k+1)))*sz,none⟩) (len-(k+(len-(k+1)))) (cap-(k+(len-(k+1))))]).run P (w.drew.setCells blk (0+k*sz) news)=.ok (.tuple #[]) W2)→
  Calls P f #[.slice (some ⟨blk,0,none⟩) len cap,.int .i64 k,.int .i64 ((k:Int)+1)] w fun e w'=>e=.returned (.slice (some ⟨blk,0,none⟩) (len-1) cap)∧w'=W2
theorem qdp {P:Program}{w:World}{TS T:TypeId}{sz:Nat}(ht:P.underlying TS=some (.slice T)){z:Value}(hv:∀w,(zeroValue T).run P w=.ok z w)(hz:z.cells.size=sz)(h1:∀v∈z.cells.toList,v.oneCell'=true)(h0:0<sz){n i c:Nat}{arr:Array Value}
  (g1:w.heap[n]? =some (.cells arr T (0,0))) (hfit:i*sz+sz≤arr.size):
  ∃vs:List Value,vs.length=sz∧∀ty,(Builtin.clear_ #[TS] ty #[.slice (some ⟨n,i*sz,none⟩) 1 c]).run P w=.ok (.tuple #[]) (w.setRow n (arr.toList.take (i*sz)++vs++arr.toList.drop (i*sz+sz)).toArray):=by
 let vs:List Value:=(Builtin.zeroCells z.cells 1).toList
 have hvl:vs.length=sz:=by simp[vs,Builtin.zeroCells,hz]
 have hvone:∀v∈vs,v.oneCell'=true:=by
  intro v hv;obtain⟨q,hq⟩:=List.getElem?_of_mem hv;have hql:q<sz:=by rw[←hvl];exact(List.getElem?_eq_some_iff.1 hq).1
  have hvx:vs[q]? =some (z.cells[q%sz]!):=by
   simp only[vs,Builtin.zeroCells,hz,Array.getElem?_toList,Array.getElem?_map];have:(Array.range (1*sz))[q]? =some q:=by simp[hql]
   rw[this];rfl
  rw[hvx]at hq;cases hq;have hlt:q%sz<z.cells.size:=by rw[hz];exact Nat.mod_lt _ h0
  refine h1 _ ?_;rw[getElem!_pos z.cells _ hlt];simp
 have hrun:=run_storeCells_at (P:=P) n (i*sz) T vs 0 arr w g1 (by rw[hvl];omega) hvone;simp only[Nat.add_zero]at hrun;rw[hvl]at hrun;refine⟨vs,hvl,fun ty=>?_⟩;simp[Builtin.clear_,run_underlying ht,hv];simp only[vs]at hrun;rw[hrun];simp[Result.andThen,vs]
theorem qig {l vs:List Value}{a q:Nat}(h:a+vs.length≤l.length):(l.take a++vs++l.drop (a+vs.length)).toArray[q]? =if q<a then l[q]? else if q<a+vs.length then vs[q-a]? else l[q]? :=by
 rw[List.getElem?_toArray];have hl:(l.take a).length=a:=by simp;omega
 by_cases h1:q<a
 ·rw[if_pos h1,List.append_assoc,List.getElem?_append_left (by omega),List.getElem?_take_of_lt h1]
 ·rw[if_neg h1];by_cases h2:q<a+vs.length
  ·rw[if_pos h2,List.getElem?_append_left (by simp;omega),List.getElem?_append_right (by omega),hl]
  ·rw[if_neg h2,List.getElem?_append_right (by simp;omega),List.getElem?_drop];congr 1
   simp;omega
theorem Ct.delete {P:Program}{f:FuncId}{sz:Nat}{TS T:TypeId}{es:List (List D)}{k:Nat}(raw:qc1 P f sz TS)(ht:P.underlying TS=some (.slice T)){i0:TypeInfo}(hi:P.info? T=some i0)(his:i0.size=sz){z:Value}(hv:∀w,(zeroValue T).run P w=.ok z w)(hz:z.cells.size=sz)
  (h1:∀v∈z.cells.toList,v.oneCell'=true) (h0:0<sz) (hk:k<es.length):Ct P f [.own 0,.d (.v (.int .i64 k)),.d (.v (.int .i64 ((k:Int)+1)))] [] [(0,.grow sz es T)] (.d (.ro false (es.eraseIdx k))) []:=by
 intro σ I w vs hI hlen ha hm hn
 match vs,hlen with
 |[y,a,b],_=>
 have e1:=RV_v (ha 1 _ _ rfl rfl);have e2:=RV_v (ha 2 _ _ rfl rfl);subst e1 e2;have hy:σ 0=some y:=by cases ha 0 _ _ rfl rfl with|own h _=>exact h
 obtain⟨y',hy',hrb,hnn⟩:=hm.blk 0 _ rfl;rw[hy]at hy';cases hy';obtain⟨n,cap,arr,rfl,g1,g2,g3,g4,g5,g6⟩:∃n cap arr,y=.slice (some ⟨n,0,none⟩) es.length cap∧w.heap[n]? =some (.cells arr T (0,0))∧cap*sz≤arr.size∧es.length≤cap∧cap≤maxLen∧(∀e∈es,e.length=sz)∧
   (∀(i:Nat) e (j:Nat) c,es[i]? =some e→e[j]? =some c→∃x,arr[i*sz+j]? =some x∧RD I w c x∧x.oneCell'=true):=by
  cases hrb with
  |none=>simp at hk
  |emp _=>simp at hk
  |grow g1 g2 g3 g4 g5 g6=>exact⟨_,_,_,rfl,g1,g2,g3,g4,g5,g6⟩
 have hcap:0<cap:=by omega
 have hbn:AI.hb (Value.slice (some ⟨n,0,none⟩) es.length cap)=some n:=zc6 hcap;have hnI:¬I n:=(hnn n hbn).2;have hnh:n<w.heap.size:=(hnn n hbn).1;have hfit:es.length*sz≤arr.size:=Nat.le_trans (Nat.mul_le_mul_right _ g3) g2;have hks:(k+1)*sz+(es.length-(k+1))*sz=es.length*sz:=by rw[←Nat.add_mul];congr 1;omega
 have hks2:k*sz+sz=(k+1)*sz:=by rw[Nat.add_mul,Nat.one_mul]
 have hks3:(es.length-1)*sz+sz=es.length*sz:=by
  obtain⟨l,hl⟩:∃l,es.length=l+1:=⟨es.length-1,by omega⟩;rw[hl,Nat.add_sub_cancel,Nat.add_mul,Nat.one_mul]
 let news:List Value:=(arr.toList.drop ((k+1)*sz)).take ((es.length-(k+1))*sz)
 have hnl:news.length=(es.length-(k+1))*sz:=by simp[news];omega
 have hnget:∀t,t<news.length→news[t]? =arr[(k+1)*sz+t]? :=by
  intro t ht;rw[hnl]at ht;simp only[news];rw[List.getElem?_take_of_lt ht,List.getElem?_drop,Array.getElem?_toList]
 have hone:∀q,q<es.length*sz→∃x,arr[q]? =some x∧x.oneCell'=true:=by
  intro q hq;have hi:q/sz<es.length:=Nat.div_lt_of_lt_mul (by rw[Nat.mul_comm];exact hq);have hm:q%sz<sz:=Nat.mod_lt _ h0;have he:=List.getElem?_eq_getElem hi;have hel:=g5 _ (List.getElem_mem hi);obtain⟨x,p1,_,p3⟩:=g6 (q/sz) _ (q%sz) _ he (List.getElem?_eq_getElem (by omega));refine⟨x,?_,p3⟩;rw[Nat.mul_comm,Nat.div_add_mod]at p1;exact p1
 have hnone:∀u∈news,u.oneCell'=true:=by
  intro u hu;obtain⟨t,ht⟩:=List.getElem?_of_mem hu;have hlt:=(List.getElem?_eq_some_iff.1 ht).1;rw[hnget t hlt]at ht;obtain⟨x,p1,p2⟩:=hone ((k+1)*sz+t) (by rw[hnl]at hlt;omega);rw[p1]at ht;cases ht;exact p2
 have hcell:∀q,w.drew.cell? ⟨n,q,none⟩=arr[q]? :=fun q=>zc0 (w:=w.drew) (T:=T) (fr:=(0,0)) g1;obtain⟨A,hA,hsrc⟩:∃A:Addr,(if cap=k+1 then some (⟨n,0,none⟩:Addr)else some ⟨n,(k+1)*sz,none⟩)=some A∧∀t u,news[t]? =some u→w.drew.cell? (A.add t)=some u:=by
  by_cases h:cap=k+1
  ·refine⟨⟨n,0,none⟩,by simp[h],fun t u hu=>?_⟩;have:news.length=0:=by rw[hnl,show es.length-(k+1)=0 by omega,Nat.zero_mul]
   rw[List.eq_nil_of_length_eq_zero this]at hu;simp at hu
  ·refine⟨⟨n,(k+1)*sz,none⟩,by simp[h],fun t u hu=>?_⟩;rw[zby,hcell,←hnget t (List.getElem?_eq_some_iff.1 hu).1,hu]
 let arr1:Array Value:=(arr.toList.take (k*sz)++news++arr.toList.drop (k*sz+news.length)).toArray
 have hfit1:k*sz+news.length≤arr.size:=by rw[hnl];omega
 have ha1:arr1.size=arr.size:=by simp[arr1];omega
 have g1':w.drew.heap[n]? =some (.cells arr T (0,0)):=g1;have hfz:∀q,w.drew.frozen? ⟨n,q,none⟩=false:=fun q=>by unfold World.frozen?;simp only[g1'];simp
 have hsome:∀q,q<es.length*sz→(w.drew.cell? ⟨n,q,none⟩).isSome=true:=fun q hq=>by
  obtain⟨x,p,_⟩:=hone q hq;rw[hcell,p];rfl
 have hset:w.drew.setCells n (0+k*sz) news=w.drew.setRow n arr1:=by
  have r1:=run_storeCells_cells (P:=P) n (k*sz) news 0 w.drew (fun j hj=>by rw[Nat.add_zero];exact hsome _ (by rw[hnl]at hj;omega)) (fun j hj=>by rw[Nat.add_zero];exact hfz _) hnone;have r2:=run_storeCells_at (P:=P) n (k*sz) T news 0 arr w.drew g1' (by omega) hnone;simp only[Nat.add_zero]at r1 r2;rw[r1]at r2;rw[Nat.zero_add];injection r2
 have g1a:(w.drew.setRow n arr1).heap[n]? =some (.cells arr1 T (0,0)):=setRow_heap w.drew n arr _ T (0,0) g1';obtain⟨zs,hzl,hclr⟩:=qdp (P:=P) (w:=w.drew.setRow n arr1) (c:=cap-(es.length-1)) ht hv hz h1 h0 (i:=es.length-1) g1a (by rw[ha1];omega)
 let arr2:Array Value:=(arr1.toList.take ((es.length-1)*sz)++zs++arr1.toList.drop ((es.length-1)*sz+sz)).toArray
 have hW:∀ty,(Builtin.clear_ #[TS] ty #[.slice (some ⟨n,(k+(es.length-(k+1)))*sz,none⟩) (es.length-(k+(es.length-(k+1)))) (cap-(k+(es.length-(k+1))))]).run P (w.drew.setCells n (0+k*sz) news)=.ok (.tuple #[]) ((w.drew.setRow n arr1).setRow n arr2):=by
  intro ty;rw[hset,show k+(es.length-(k+1))=es.length-1 by omega,show es.length-(es.length-1)=1 by omega];exact hclr ty
 refine(raw n cap k es.length news w ((w.drew.setRow n arr1).setRow n arr2) hk g3 g4 A hA hsrc hnl hnone (fun t ht=>⟨hsome _ (by rw[hnl]at ht;omega),hfz _⟩) hW).mono ?_;rintro e w' ⟨rfl,rfl⟩;have ha2:arr2.size=arr.size:=by simp[arr2,hzl,ha1];omega
 have g2a:((w.drew.setRow n arr1).setRow n arr2).heap[n]? =some (.cells arr2 T (0,0)):=setRow_heap _ n arr1 _ T (0,0) g1a;have hoth:∀j,j≠n→((w.drew.setRow n arr1).setRow n arr2).heap[j]? =w.heap[j]? :=fun j hj=>(setRow_other _ n j _ hj).trans (setRow_other _ n j _ hj);have hat:∀q,q<(es.length-1)*sz→arr2[q]? =if q<k*sz then arr[q]? else arr[q+sz]? :=by
  intro q hq;have m1:=qig (l:=arr1.toList) (vs:=zs) (a:=(es.length-1)*sz) (q:=q) (by rw[hzl];simp[ha1];omega);rw[hzl,if_pos hq,Array.getElem?_toList]at m1;have m2:=qig (l:=arr.toList) (vs:=news) (a:=k*sz) (q:=q) (by simpa using hfit1);have m3:arr2[q]? =arr1[q]? :=m1;have m4:arr1[q]? =if q<k*sz then arr.toList[q]? else if q<k*sz+news.length then news[q-k*sz]? else arr.toList[q]? :=m2
  rw[m3,m4,Array.getElem?_toList];by_cases c1:q<k*sz
  ·rw[if_pos c1,if_pos c1]
  ·rw[if_neg c1,if_neg c1,if_pos (by rw[hnl];omega),hnget _ (by rw[hnl];omega)];congr 1;omega
 refine⟨_,σ,fun j=>I j∨j=n,rfl,{os:=rfl,tape:=rfl,output:=⟨rfl,Nat.le_succ _⟩,size:=by simp,names:=fun b x h=>h,new:=fun b h1 h2=>absurd h1 h2,imono:=fun j h=>.inl h,ib:=?_,inew:=?_,frame:=?_,mem:=⟨fun b q hb=>by simp[zac]at hb,fun b b' q q' x x' j hb=>by simp[zac]at hb⟩,dom:=fun b q hb=>by simp[zac]at hb,mine:=?_},?_⟩
 ·rintro j (h|rfl)
  ·simpa using hI j h
  ·simpa using hnh
 ·rintro j (h|rfl)
  ·exact .inl h
  ·exact .inr (.inr ⟨0,_,_,rfl,hy,hbn⟩)
 ·intro j hj ho;exact hoth j (fun e=>ho (e▸⟨0,_,_,rfl,hy,hbn⟩))
 ·rintro j ⟨b,q,x,hb,_⟩;simp[zac]at hb
 ·have hel:(es.eraseIdx k).length=es.length-1:=by rw[List.length_eraseIdx,if_pos hk]
  have mono:∀{c y},RD I w c y→RD (fun j=>I j∨j=n) ((w.drew.setRow n arr1).setRow n arr2) c y:=fun h=>h.mono (fun j hj=>hoth j (fun e=>hnI (e▸hj))) (fun _ h=>.inl h);have key:∀(i:Nat) e (j:Nat) c,(es.eraseIdx k)[i]? =some e→e[j]? =some c→∃x,arr2[i*sz+j]? =some x∧RD I w c x∧x.oneCell'=true:=by
   intro i e j c h3 h4;have hil:i<es.length-1:=by rw[←hel];exact(List.getElem?_eq_some_iff.1 h3).1
   rw[List.getElem?_eraseIdx]at h3;by_cases c1:i<k
   ·rw[if_pos c1]at h3;obtain⟨x,p1,p2,p3⟩:=g6 i e j c h3 h4;have hj:j<sz:=by rw[←g5 e (List.mem_of_getElem? h3)];exact(List.getElem?_eq_some_iff.1 h4).1
    have q1:(i+1)*sz≤k*sz:=Nat.mul_le_mul_right _ c1;have q2:(i+1)*sz≤(es.length-1)*sz:=Nat.mul_le_mul_right _ hil;rw[Nat.add_mul,Nat.one_mul]at q1 q2;exact⟨x,by rw[hat _ (by omega),if_pos (by omega)];exact p1,p2,p3⟩
   ·rw[if_neg c1]at h3;obtain⟨x,p1,p2,p3⟩:=g6 (i+1) e j c h3 h4;have hj:j<sz:=by rw[←g5 e (List.mem_of_getElem? h3)];exact(List.getElem?_eq_some_iff.1 h4).1
    have q1:k*sz≤i*sz:=Nat.mul_le_mul_right _ (by omega);have q2:(i+1)*sz≤(es.length-1)*sz:=Nat.mul_le_mul_right _ hil;rw[Nat.add_mul,Nat.one_mul]at q2 p1;refine⟨x,?_,p2,p3⟩;rw[hat _ (by omega),if_neg (by omega),show i*sz+j+sz=i*sz+sz+j by omega];exact p1
  have hr:=RD.ro (I:=fun j=>I j∨j=n) (w:=(w.drew.setRow n arr1).setRow n arr2) (sz:=sz) (fc:=false) (es:=es.eraseIdx k) (blk:=n) (off:=0) (cap:=cap) (fun i j=>arr2.getD (i*sz+j) undef) (.inr rfl) (fun e he=>g5 e (List.mem_of_mem_eraseIdx he)) (by omega) g4 (by simp)
   (fun i e j c h3 h4=>by
     obtain⟨x,p1,_,_⟩:=key i e j c h3 h4;rw[Nat.zero_add,zc0 g2a];simp[p1])
   (fun i e j c h3 h4=>by
     obtain⟨x,p1,p2,_⟩:=key i e j c h3 h4;have e0:arr2.getD (i*sz+j) undef=x:=by simp[p1]
     rw[e0];exact mono p2)
   (fun i e j c h3 h4=>by
     obtain⟨x,p1,_,p3⟩:=key i e j c h3 h4;have e0:arr2.getD (i*sz+j) undef=x:=by simp[p1]
     rw[e0];exact p3)
  rw[hel]at hr;exact .d hr
theorem Ct.deleteT {P:Program}{f:FuncId}{sz:Nat}{TS T:TypeId}{es:List (List D)}{k:Nat}{ti:TI}(raw:qc1 P f sz TS)(ht:P.underlying TS=some (.slice T))(hi:tiOf P T=some ti)(his:ti.sz=sz)(hz:ti.zero.length=sz)(h1:ti.zero.all Value.oneCell'=true)(h0:0<sz)(hk:k<es.length):
  Ct P f [.own 0,.d (.v (.int .i64 k)),.d (.v (.int .i64 ((k:Int)+1)))] [] [(0,.grow sz es T)] (.d (.ro false (es.eraseIdx k))) []:=by
 obtain⟨i,d,z,hi',hd,hz',rfl⟩:=zah hi;exact Ct.delete raw ht hi' his (z:=z) (fun w=>by simp[zeroValue,typeInfo,hi',hz']) (by simpa using hz) (fun v hv=>List.all_eq_true.1 h1 v hv) h0 hk
end Go.AI
namespace Go.AI
theorem qhb {σ:Names}{I:Nat→Prop}{w:World}{pre post:List AV}{T:TypeId}{b:Nat}{x v:Value}(hv:σ b=some v)(h1:v.oneCell'=true):RB σ I w (.cells (pre++ .own b::post) T) x↔RB σ I w (.cells (pre++ .d (.v v)::post) T) x:=by
 have key:∀(c c':AV),(∀y,RV σ I w c y→RV σ I w c' y)→RB σ I w (.cells (pre++c::post) T) x→RB σ I w (.cells (pre++c'::post) T) x:=by
  intro c c' h hb;cases hb with
  |cells hw hl hr=>
   refine .cells hw (by simpa using hl) fun i d y hd hy=>?_;by_cases hi:i<pre.length
   ·rw[List.getElem?_append_left hi]at hd;exact hr i d y (by rw[List.getElem?_append_left hi];exact hd) hy
   ·rw[List.getElem?_append_right (by omega)]at hd;have e:(pre++c::post)[i]? =(c::post)[i-pre.length]? :=List.getElem?_append_right (by omega);cases hk:i-pre.length with
    |zero=>
     rw[hk]at hd e;simp at hd e;subst hd;exact h _ (hr i c y e hy)
    |succ k=>
     rw[hk]at hd e;simp at hd e;exact hr i d y (by rw[e];exact hd) hy
 constructor
 ·exact key _ _ fun y h=>by
   cases h with
   |own h _=>rw[hv]at h;cases h;exact .d (.v _)
 ·exact key _ _ fun y h=>by
   have:=RV_v h;subst this;exact .own hv h1
theorem zdr {mr rest:List (Nat×Blk)}{a c:Blk}(h0:zac mr 0=none)(b:Nat):zac (mr++(0,a)::rest) b=if b=0 then some a else zac (mr++(0,c)::rest) b:=by
 have app:∀(l r:List (Nat×Blk)),zac (l++r) b=match zac l b with|some k=>some k|none=>zac r b:=by
  intro l r;induction l with
  |nil=>rfl
  |cons p l ih=>
   simp only[List.cons_append,zac];split
   ·rfl
   ·exact ih
 rw[app,app];by_cases hb:b=0
 ·subst hb;rw[h0];simp[zac]
 ·rw[if_neg hb];cases zac mr b with
  |some k=>rfl
  |none=>simp[zac,Ne.symm hb]
theorem qg2 {σ:Names}{I:Nat→Prop}{w:World}{mr rest:List (Nat×Blk)}{a c:Blk}(h0:zac mr 0=none)(hc:∀x,RB σ I w a x→RB σ I w c x)(h:RM σ I w (zac (mr++(0,a)::rest))):RM σ I w (zac (mr++(0,c)::rest)):=by
 have back:∀b k,zac (mr++(0,c)::rest) b=some k→∃k',zac (mr++(0,a)::rest) b=some k':=by
  intro b k hk;rw[zdr h0 (c:=a)]at hk;rw[zdr h0 (c:=a)];by_cases hb:b=0
  ·exact⟨a,by rw[if_pos hb]⟩
  ·rw[if_neg hb]at hk⊢;exact⟨k,hk⟩
 refine⟨fun b k hk=>?_,fun b b' k k' x x' n h1 h2 h3 h4 h5 h6=>?_⟩
 ·rw[zdr h0 (c:=a)]at hk;by_cases hb:b=0
  ·rw[if_pos hb]at hk;cases hk;obtain⟨x,p,q,r⟩:=h.blk b a (by rw[zdr h0 (c:=a),if_pos hb]);exact⟨x,p,hc x q,r⟩
  ·rw[if_neg hb]at hk;exact h.blk b k hk
 ·obtain⟨q,hq⟩:=back b k h1;obtain⟨q',hq'⟩:=back b' k' h2;exact h.apart b b' q q' x x' n hq hq' h3 h4 h5 h6
theorem zld {σ:Names}{mr rest:List (Nat×Blk)}{a c:Blk}(h0:zac mr 0=none){n:Nat}(h:Owns σ (zac (mr++(0,a)::rest)) n):Owns σ (zac (mr++(0,c)::rest)) n:=by
 obtain⟨b,k,x,h1,h2,h3⟩:=h;by_cases hb:b=0
 ·exact⟨b,c,x,by rw[zdr h0 (c:=a),if_pos hb],h2,h3⟩
 ·rw[zdr h0 (c:=c),if_neg hb]at h1;exact⟨b,k,x,h1,h2,h3⟩
theorem Ct.hide {P:Program}{f:FuncId}{args:List AV}{mr rest rest':List (Nat×Blk)}{res:AV}{pre post pre' post':List AV}{T:TypeId}{b:Nat}(h0:zac mr 0=none)
  (h:∀v,Ct P f args mr ((0,.cells (pre++ .d (.v v)::post) T)::rest) res ((0,.cells (pre'++ .d (.v v)::post') T)::rest')):
  Ct P f args mr ((0,.cells (pre++ .own b::post) T)::rest) res ((0,.cells (pre'++ .own b::post') T)::rest'):=by
 intro σ I w vs hI hl ha hm h64;obtain⟨x,hx,hrb,_⟩:=hm.blk 0 (.cells (pre++ .own b::post) T) (by rw[zdr h0 (c:=.cells [] T),if_pos rfl]);obtain⟨v,hv,h1⟩:∃v,σ b=some v∧v.oneCell'=true:=by
  cases hrb with
  | @cells cs T n arr hw hl hr=>
    have hi:pre.length<arr.size:=by rw[hl];simp
    have:=hr pre.length (.own b) arr[pre.length] (by simp) (by simp[hi]);cases this with
    |own h h1=>exact⟨_,h,h1⟩
 have hm1:=qg2 h0 (fun x=>(qhb (pre:=pre) (post:=post) hv h1).1) hm;refine(h v σ I w vs hI hl ha hm1 h64).mono ?_;rintro e w' ⟨u,σ',I',rfl,hp,hu⟩;refine⟨u,σ',I',rfl,{os:=hp.os,tape:=hp.tape,output:=hp.output,size:=hp.size,names:=hp.names,new:=hp.new,imono:=hp.imono,ib:=hp.ib,inew:=fun n hn=>?_,frame:=fun n h1 h2=>hp.frame n h1 (fun ho=>h2 (zld h0 ho)),mem:=qg2 h0 (fun x=>(qhb (hp.names _ _ hv) h1).2) hp.mem,dom:=fun q k hq=>?_,mine:=fun n hn=>?_},hu⟩
 ·rcases hp.inew n hn with g|g|g
  ·exact .inl g
  ·exact .inr (.inl g)
  ·exact .inr (.inr (zld h0 g))
 ·rw[zdr h0 (c:=.cells (pre'++ .d (.v v)::post') T)]at hq;by_cases hb:q=0
  ·exact .inl (by rw[zdr h0 (c:=.cells [] T),if_pos hb];simp)
  ·rw[if_neg hb]at hq;rcases hp.dom q k hq with g|g
   ·left;rw[zdr h0 (c:=.cells [] T),if_neg hb]at g⊢;exact g
   ·exact .inr g
 ·rcases hp.mine n (zld h0 hn)with g|g
  ·exact .inl (zld h0 g)
  ·exact .inr g
section
variable {ro : Option Nat} {dp : Nat} {J : Names → (Nat → Prop) → World → Prop}
def RoundsI (ro:Option Nat)(dp:Nat)(J:Names→(Nat→Prop)→World→Prop)(P:Program)(nt:Nat)(R:Exit→X→Prop)(c:Code)(k:List It)(m:Nat)(x:X):Prop:=
 ∀E:Ctx,E.P=P→E.nt=nt→(∀s σ I a w,RelAt E s σ I a w→J σ I w)→∀a w,Rel E x.den a w→Code.roundsIn (FW ro) dp P c (aftI ro dp J E k (zjx E R)) m a w
theorem LoopI.rounds {P:Program}{nt:Nat}{R:Exit→X→Prop}{c:Code}{k:List It}{x:X}(m:Nat)(h:RoundsI ro dp J P nt R c k m x):LoopI ro dp J P nt R c k x:=
 fun E hP hn hJ a w hr=>wpIn_loop_rounds m (h E hP hn hJ a w hr)
theorem RoundsI.step {P:Program}{nt:Nat}{R:Exit→X→Prop}{c:Code}{k:List It}{m:Nat}{x:X}(hm:P.follows .mixedOrders=true)(hk:zay k=true)
  (h:CI ro dp J P nt R (.code c:: .stop (RoundsI ro dp J P nt R c k m)::k) x):RoundsI ro dp J P nt R c k (m+1) x:=by
 intro E hP hn hJ a w hr;have:=(zev hm h E hP hn hJ).1 (by simpa[zay,zds]using hk) a w hr;simp only[aftI]at this;rw[roundsIn_succ];subst hP;refine wpIn_mono this (fun e a' w' hq=>?_);cases e with
 |normal=>
  simp only[aftI,Exit.then]at hq⊢;obtain⟨y,hy,hB⟩:=hq;exact hB E rfl hn hJ a' w' hy
 |_=>simpa only[aftI,Exit.then]using hq
end
end Go.AI
