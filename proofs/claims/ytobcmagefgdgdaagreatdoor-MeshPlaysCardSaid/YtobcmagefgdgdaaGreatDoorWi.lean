/- LAYERS 16 to 20, walked -/
import Derived.Defers
import Derived.Recover
import Derived.Tactics
import Derived.Tactics2
import Derived.WalkLawsBesides
import Derived.Test.YtobcmagefgdgdaaGreatDoorWh
set_option linter.unusedSimpArgs false
set_option linter.unusedVariables false
set_option maxRecDepth 100000
set_option maxHeartbeats 8000000
namespace Go.Proofs.YtobcmagefgdgdaaGreatDoor
open Go.AI Go.G Tryz
attribute [simp] ntmps559 results559 ntmps560 results560 ntmps220 results220 ntmps155 results155 ntmps502 results502 ntmps557 results557 ntmps496 results496 ntmps499 results499 ntmps497 results497 ntmps501 results501 ntmps404 results404
abbrev wT (n:Int):Value:=.iface 641 (.agg #[.int .i64 n])
theorem Xf (w:World)(v:Value):(Instr.typeAssert (.iface 641 v) 20 641 false).run prog w=.ok v w:=by kernel_rfl
theorem zh1 (w:World)(n:Int):(Instr.field 641 (.agg #[.int .i64 n]) 0).run prog w=.ok (.int .i64 n) w:=by kernel_rfl
theorem zjw (p:Addr)(w:World):
  CallsD prog 558 #[.pointer (some p)] .returning w λe u' w'=>e=.returned (.tuple #[])/\u'=.returning/\w'=w:=by
 refine callsD_of_wpS func558 rfl λc₀ cs hu=>?_;apply wpS_seq;apply wpS_region;simp[wpOpsS,go_sem,recoverD,hu,ntmps558,Exit.thenS];apply wpS_seq;apply wpS_region;simp[wpOpsS,go_sem,recoverD,hu,ntmps558,Exit.thenS];refine wpS_cond (t:=false) (by simp[Act.eval,Array.replicate]) ?_;simp only[A1,iO];refine wpS_of_wp (wp_skip ?_);cases c₀;simp_all[bodyPostS,results,results558]
theorem zjv (p:Addr)(x:Value)(n:Int)(w:World)(hc:w.cell? p=some x)(hz:w.frozen? p=false):
  CallsD prog 558 #[.pointer (some p)] (.panicking (DC (wT n))) w λe u' w'=>
   e=.returned (.tuple #[])/\u'=.panicking [{v:=wT n,recovered:=true}]/\w'=w.setCell p (.int .i64 n):=by
 refine callsD_of_wpS func558 rfl λc₀ cs hu=>?_;apply wpS_seq;apply wpS_region;simp[wpOpsS,go_sem,recoverD,hu,ntmps558,Exit.thenS];apply wpS_seq;apply wpS_region;simp[wpOpsS,go_sem,recoverD,hu,ntmps558,Exit.thenS];refine wpS_cond (t:=true) (by simp[Act.eval,Array.replicate]) ?_;simp only[fK];apply wpS_region;simp[wpOpsS,go_sem,Xf,zh1,hc,hz,bodyPostS,results,results558]
theorem ze6 (n:Int)(h:¬n=0)(w:World):Calls prog 559 #[.int .i64 n] w λe w'=>e=.panicked (DC (wT n))/\w'=w:=by
 go_enter func559,ntmps559
 go_wp2
 exact⟨rfl,rfl,rfl⟩
theorem zju (g:FuncId)(xs:Array Value)(w:World)(R:Ending->World->Prop)(hen:Enters prog g)(S:Int->World->Prop)
  (hdo:Calls prog g xs (w.alloc (.cells #[.int .i64 0] 51)) λe w'=>∃n,S n w'/\(∃x,w'.cell? ⟨w.heap.size,0,none⟩=some x)/\w'.frozen? ⟨w.heap.size,0,none⟩=false/\((n=0/\∃v,e=.returned v)\/e=.panicked (DC (wT n))))
  (hR:∀n w',S n w'->R (.returned (.int .i64 n)) (w'.setCell ⟨w.heap.size,0,none⟩ (.int .i64 n))):Calls prog 500 #[.func (.func g) #[] xs] w R:=by
 have hmf:∀(fn:Fn) (first cap:Array Value) (w:World),(Instr.makeFunc fn first cap).run prog w=.ok (.func fn first cap) w:=λ_ _ _ _=>rfl
 go_enter_defers func500,ntmps500
 refine wp_seq (wp_region ?_);simp[wpOps,go_sem,Oper.wp,Exit.then];refine .inl ?_;refine wp_seq (wp_region ?_);simp[wpOps,go_sem,Oper.wp,Exit.then,hmf];refine .inl (.inl ?_);refine wp_seq (wp_region ?_);simp[wpOps,go_sem,Oper.wp,Exit.then,invoke];refine .inl (.inl ?_);rw[hen];simp only[Oper.upon];refine hdo.mono λe w' ⟨n,h1,⟨x,h2⟩,h3,h4⟩=>?_;rcases h4 with⟨rfl,v,rfl⟩|rfl
 ·refine wp_seq (wp_region ?_);simp[wpOps,go_sem,Oper.wp,Exit.then,h2,h3];refine .inl (wp_ret ?_);refine leaves_cons (f:=558) (args:=#[.pointer (some ⟨w.heap.size,0,none⟩)]) (by simp) (by simp[go_sem]) ?_;refine(zjw ⟨w.heap.size,0,none⟩ _).mono ?_;rintro e u' w'' ⟨rfl,rfl,rfl⟩;simp[Leaves,settle,results,results500,go_sem,h2];exact hR 0 w' h1
 ·refine leaves_cons (f:=558) (args:=#[.pointer (some ⟨w.heap.size,0,none⟩)]) (by simp) (by simp[go_sem]) ?_;refine(zjv ⟨w.heap.size,0,none⟩ x n _ h2 h3).mono ?_;rintro e u' w'' ⟨rfl,rfl,rfl⟩;simp[Leaves,settle,results,results500,go_sem,h2];exact hR n w' h1
theorem Rf {fin:Value->Ending}{g:FuncId}{args:List AV}{mr m m':List (Nat×aY)}{res:AV}(n:Int)(hen:Enters prog g)(hct:MN (λ_ _=>True) fin prog g args mr m res m')(hf:∀v,(n=0/\fin v=.returned v)\/fin v=.panicked (DC (wT n))):
  Ct prog 500 [.fn (.func g) [] args] mr m (int n) m':=by
 intro σ I w vs hib hl hv hrm hfree;obtain⟨v,rfl⟩:∃v,vs=[v]:=by
  match vs,hl with
  |[v],_=>exact⟨v,rfl⟩
 have h0:=hv 0 _ v rfl rfl;cases h0 with
 | @fn _ _ _ xs ys hx hy h1 h2=>
   obtain rfl:xs=[]:=kH (by simpa using hx);refine zju g ys.toArray w _ hen (λk w'=>k=n/\∃σ' I',eG σ I (w.alloc (.cells #[.int .i64 0] 51)) (bB (mr++m)) 64 σ' I' w' (bB (mr++m'))) ?_ ?_
   ·have hold:∀k,k<w.heap.size->(w.alloc (.cells #[.int .i64 0] 51)).heap[k]? =w.heap[k]? :=λk hk=>wX w _ hk;refine(hct σ I _ ys trivial (λk hk=>by have:=hib k hk;simp;omega) hy (λi c x p1 p2=>(h2 i c x p1 p2).mono (λk hk=>hold k (hib k hk)) (λ_ h=>h) (λ_ _ h=>h)) (hrm.moved (by simp) λk hk=>hold k ?_) hfree).mono λe w' ⟨v,σ',I',he,hp,_⟩=>?_
    ·rcases hk with hk|⟨b,q,y,q1,q2,q3⟩
     ·exact hib k hk
     ·obtain⟨y',q4,_,q5⟩:=hrm.blk b q q1;rw[q2]at q4;cases q4;exact(q5 k q3).1
    ·obtain⟨_,p2,p3⟩:=Hq (v:=undef) hrm hib hp;exact⟨n,⟨rfl,σ',I',hp⟩,⟨_,p2⟩,p3,(hf v).imp (λ⟨a,b⟩=>⟨a,v,he.trans b⟩) he.trans⟩
   ·rintro k w' ⟨rfl,σ',I',hp⟩;exact⟨_,σ',I',rfl,(Hq hrm hib hp).1,.d (.v _)⟩
theorem Re {g:FuncId}{args:List AV}{mr m m':List (Nat×aY)}{res:AV}(hen:Enters prog g)(hct:C1 g args mr m res m'):C1 500 [.fn (.func g) [] args] mr m (int 0) m':=Rf 0 hen hct.F λ_=>.inl ⟨rfl,rfl⟩
theorem Rd {g:FuncId}{args:List AV}{mr m m':List (Nat×aY)}{n:Int}(hen:Enters prog g)(hct:tL prog g args mr m (wT n) m'):C1 500 [.fn (.func g) [] args] mr m (int n) m':=Rf n hen hct λ_=>.inr rfl
theorem XA (n:Int)(h:¬n=0):tL prog 559 [int n] [] [] (wT n) []:=by
 intro σ I w vs _ hib hl hv hrm hfree;obtain⟨v,rfl⟩:∃v,vs=[v]:=by
  match vs,hl with
  |[v],_=>exact⟨v,rfl⟩
 have h0:=hv 0 _ v rfl rfl;cases h0 with
 |d h0=>cases h0 with
  |v=>
   refine(ze6 n h w).mono λe w' ⟨he,hw⟩=>?_;subst hw;exact⟨undef,σ,I,he,⟨rfl,rfl,sI.refl _,bY _,λ_ _ h=>h,λb h1 h2=>absurd h1 h2,λ_ h=>h,hib,λ_ h=>.inl h,λ_ _ _=>rfl,hrm,λb k h=>by simp[bB]at h,λ_ h=>.inl h⟩,.any _⟩
theorem H0 :C0 559 [int 0] (.aU []):=by
 refine Ct.B func559 ?_;simp;exact aA
theorem Bq (n:Int):C0 560 [bool true,int n] (int 0):=by
 refine Ct.B func560 ?_;simp;exact aA
theorem Vd (n:Int):C0 560 [bool false,int n] (int n):=by
 refine Ct.B func560 ?_;simp;exact aA
theorem Rk (n:Int):C0 220 [int n] (int (n9 n)):=by
 refine Ct.B func220 ?_;simp;have e:=ZN n;exact aA (by simp[e])
theorem Kv (n:Int):C0 155 [int n] (st (l6 (r9 n))):=by
 refine Ct.B func155 ?_;simp;refine CI.p (Rk n) ?_;simp;exact aA (by simp[r9])
theorem Le (c:Cache)(l:List aC)(h:jU c.cap l=0):C0 502 [st (l6 c),aB (l.map aF)] (.aU []):=by
 refine Ct.B func502 ?_;simp;obtain⟨h1,h2,h3⟩:=XG.1 h;have hl:=vZ h1;refine CI.p (J3 l) ?_;simp;refine CI.p H0 ?_ (ha:=by simp[h1]);simp[h1];refine CI.p (Bq 8) ?_ (ha:=by simp[h2]);simp[h2];refine CI.p H0 ?_;simp;refine CI.p (VB l (xA h1) (by omega)) ?_;simp;refine CI.p H0 ?_ (ha:=by simp[h3]);simp[h3];exact aA
theorem zfl (c:Cache)(l:List aC)(h:¬eB l=0):tL prog 502 [st (l6 c),aB (l.map aF)] [] [] (wT (eB l)) []:=by
 refine tL.B func502 mixed 99 400 ?_;simp;refine CI.p (J3 l) ?_;simp;refine CI.up [] (XA (eB l) h) call559 ?_;refine⟨rfl,?_⟩;constructor<;>simp[aI,aJ]
theorem zfo (c:Cache)(l:List aC)(h1:eB l=0)(h2:¬(l.length:Int)<=c.cap):tL prog 502 [st (l6 c),aB (l.map aF)] [] [] (wT 8) []:=by
 refine tL.B func502 mixed 99 400 ?_;simp;have hl:=vZ h1;refine CI.p (J3 l) ?_;simp;refine CI.p H0 ?_ (ha:=by simp[h1]);simp[h1];refine CI.p (Vd 8) ?_ (ha:=by simp[h2]);simp[h2];refine CI.up [] (XA 8 (by decide)) call559 ?_;refine⟨rfl,?_⟩;constructor<;>simp[aI,aJ]
theorem zfm (c:Cache)(l:List aC)(h1:eB l=0)(h2:(l.length:Int)<=c.cap)(h3:¬mO l=0):tL prog 502 [st (l6 c),aB (l.map aF)] [] [] (wT (mO l)) []:=by
 refine tL.B func502 mixed 99 400 ?_;simp;have hl:=vZ h1;refine CI.p (J3 l) ?_;simp;refine CI.p H0 ?_ (ha:=by simp[h1]);simp[h1];refine CI.p (Bq 8) ?_ (ha:=by simp[h2]);simp[h2];refine CI.p H0 ?_;simp;refine CI.p (VB l (xA h1) (by omega)) ?_;simp;refine CI.up [] (XA (mO l) h3) call559 ?_;refine⟨rfl,?_⟩;constructor<;>simp[aI,aJ]
theorem Ld (c:Cache)(l:List aC)(h:¬jU c.cap l=0):tL prog 502 [st (l6 c),aB (l.map aF)] [] [] (wT (jU c.cap l)) []:=by
 by_cases h1:eB l=0
 ·by_cases h2:(l.length:Int)<=c.cap
  ·have e:jU c.cap l=mO l:=by simp[jU,h1,show¬c.cap<l.length by omega]
   rw[e]at h⊢;exact zfm c l h1 h2 h
  ·have e:jU c.cap l=8:=by simp[jU,h1,show c.cap<l.length by omega]
   rw[e];exact zfo c l h1 h2
 ·have e:jU c.cap l=eB l:=by simp[jU,h1]
  rw[e];exact zfl c l h1
abbrev SB (c:Cache):Nat×aY:=(0,.cells ((l6 c).map .d) 95)
theorem zbj (c:Cache)(h:jU c.cap c.l=0):C1 557 [.ptr 0 0] [SB c] [] (.aU []) []:=by
 refine Ct.B func557 ?_;simp;refine CI.p (Le c c.l h) ?_;simp;exact⟨[],by constructor<;>simp[aI,aJ]⟩
theorem zbh (c:Cache)(h:¬jU c.cap c.l=0):tL prog 557 [.ptr 0 0] [SB c] [] (wT (jU c.cap c.l)) []:=by
 refine tL.B func557 mixed 99 400 ?_;simp;refine CI.up [] (Ld c c.l h) call502 ?_;refine⟨rfl,?_⟩;constructor<;>simp[aI,aJ]
theorem zbi (c:Cache):C1 500 [.fn (.func 557) [] [.ptr 0 0]] [SB c] [] (int (jU c.cap c.l)) []:=by
 by_cases h:jU c.cap c.l=0
 ·rw[h];exact Re call557 (zbj c h)
 ·exact Rd call557 (zbh c h)
theorem Fc (c:Cache):C0 496 [st (l6 c)] (bool (rA c)):=by
 refine Ct.B func496 ?_;simp;refine CI.p (Rk c.cap) ?_;simp;refine cV (λh1 zz=>?_) (λh1 zz=>?_)<;>simp only[zz]<;>simp
 ·refine CI.cc [64] (zbi c) ?_;simp;refine dr ?_;have e:rA c=decide (jU c.cap c.l=0):=by unfold rA;rw[oC h1,uP]
  exact aA (by simp[e])
 ·refine dr ?_;have e:rA c=false:=by unfold rA;rw[TJ h1,A4]
  exact aA (by simp[e])
theorem Dj (c:Cache):C0 499 [st (l6 c)] (st (l6 (oU c))):=by
 refine Ct.B func499 ?_;simp;refine CI.p (Fc c) ?_;simp;refine aX (λh1 zz=>?_) (λh1 zz=>?_)<;>simp only[zz]<;>simp
 ·refine CI.p (Kv c.cap) ?_;simp;exact aA (by simp[oU,h1])
 ·exact aA (by simp[oU,h1])
theorem Dk (c:Cache):fA (oU c).l/\(oU c).l.length<=64:=by
 have h:=(C4.1 (U5 c)).2.1;exact⟨xA h,vZ h⟩
theorem Dr (c:Cache):C0 497 [st (l6 c)] (aB ((rU c).map aF)):=by
 refine Ct.B func497 ?_;simp;refine CI.p (Dj c) ?_;simp;obtain⟨h1,h2⟩:=Dk c;refine CI.p (VX (oU c).l h1 (by omega)) ?_;simp;exact aA (by simp[rU])
abbrev IZ (c:Cache)(aD:List aC)(gone:List Key):List (Nat×aY):=[SB c,(1,.cells [aB (aD.map aF)] 65),(2,.cells [aB (gone.map aQ)] 55)]
theorem zkS (c:Cache)(aD:List aC)(gone:List Key)(hl:c.l.length+aD.length<=1000000)(hg:gone.length<=9223372036854775807)(h:jU c.cap (iC c.l aD gone)=0):C1 501 [.ptr 0 0,.ptr 1 0,.ptr 2 0,.ptr 3 0] (IZ c aD gone) [(3,.cells ((l6 c).map .d) 95)] (.aU []) [(3,.cells ((l6 ⟨c.cap,iC c.l aD gone⟩).map .d) 95)]:=by
 refine Ct.B func501 ?_;simp;refine CI.p (PK c.l aD gone hl hg) ?_;simp;refine CI.p (Le c (iC c.l aD gone) h) ?_;simp;exact⟨[],by constructor<;>simp[aI,aJ]⟩
theorem zkQ (c:Cache)(aD:List aC)(gone:List Key)(hl:c.l.length+aD.length<=1000000)(hg:gone.length<=9223372036854775807)(h:¬jU c.cap (iC c.l aD gone)=0):tL prog 501 [.ptr 0 0,.ptr 1 0,.ptr 2 0,.ptr 3 0] (IZ c aD gone) [(3,.cells ((l6 c).map .d) 95)] (wT (jU c.cap (iC c.l aD gone))) [(3,.cells ((l6 ⟨c.cap,iC c.l aD gone⟩).map .d) 95)]:=by
 refine tL.B func501 mixed 99 400 ?_;simp;refine CI.p (PK c.l aD gone hl hg) ?_;simp;refine CI.up [] (Ld c (iC c.l aD gone) h) call502 ?_;refine⟨rfl,?_⟩;constructor<;>simp[aI,aJ]
theorem zkR (c:Cache)(aD:List aC)(gone:List Key)(hl:c.l.length+aD.length<=1000000)(hg:gone.length<=9223372036854775807):
  C1 500 [.fn (.func 501) [] [.ptr 0 0,.ptr 1 0,.ptr 2 0,.ptr 3 0]] (IZ c aD gone) [(3,.cells ((l6 c).map .d) 95)] (int (jU c.cap (iC c.l aD gone))) [(3,.cells ((l6 ⟨c.cap,iC c.l aD gone⟩).map .d) 95)]:=by
 by_cases h:jU c.cap (iC c.l aD gone)=0
 ·rw[h];exact Re call501 (zkS c aD gone hl hg h)
 ·exact Rd call501 (zkQ c aD gone hl hg h)
theorem zkO (c:Cache)(aD:List aC)(gone:List Key)(hl:aD.length<=1000)(hg:gone.length<=9223372036854775807):C0 404 [st (l6 c),aB (aD.map aF),aB (gone.map aQ)] (.aU [st (l6 (tJ c aD gone).1),int (tJ c aD gone).2]):=by
 refine Ct.B func404 ?_;simp;refine CI.p (Dj c) ?_;simp;have h1:=(Dk c).2;have hh:tJ c aD gone=tI (oU c) aD gone:=rfl;rw[hh];clear hh;generalize oU c=q at h1⊢;refine CI.cc [64,128,192,640] (zkR q aD gone (by omega) hg) ?_ (ha:=by simp[IZ]) (hk:=by simp[IZ]);simp[IZ];refine aX (λh2 zz=>?_) (λh2 zz=>?_)<;>simp only[zz]<;>simp
 ·exact aA (by simp[tI,h2])
 ·exact aA (by simp[tI,h2])
attribute [simp] ntmps407 results407 ntmps503 results503 ntmps406 results406 ntmps498 results498 ntmps342 results342 ntmps408 results408 ntmps401 results401 ntmps341 results341 ntmps247 results247 ntmps409 results409 ntmps318 results318
theorem Qu (x:dB)(l:List dB)(hl:l.length<=1000000):C1 407 [aB ((x::l).map iQ)] [] [] (.own 64) [(64,.grow 3 ((x::l).map iQ) 277)]:=by
 refine Ct.B func407 ?_;simp;refine⟨by omega,?_⟩;exact⟨[(64,384)],by constructor<;>simp[aI,aJ]⟩
theorem Nt (l:List dB)(kf:D)(p:dB->Bool)(hf:∀x∈l,bN prog (.d kf) [st (iQ x)] (bool (p x)))(hl:l.length<=9223372036854775807):C1 503 [.own 0,.d kf] [(0,.grow 3 (l.map iQ) 277)] [] (int (iZ p l)) []:=by
 refine Ct.B func503 ?_;simp;refine aH.inv mixed rfl (ι:={k:Nat//k<=(l).length/\(l.take k).all (λx=>!p x)=true}) (λk=>[(0,.own 0),(1,.d kf),(7,int l.length),(8,int k.1)]) (λk=>[(0,.grow 3 (l.map iQ) 277)]) 64 (λk=>(l).length-k.1) ⟨0,by omega,by simp⟩ [] (by constructor<;>simp) ?_;rintro⟨k,hk1,hi⟩ B hB;refine CI.n ?_;simp;rcases bC hk1 with⟨r,hk,hx,hr,hm,ht,hd,hw,h⟩|rfl
 ·simp[h,hr,hw,hk];refine CI.ff (hf r hm) rfl rfl rfl ?_ (ha:=by simp[hx]);simp[hx];refine bQ (λhp=>?_) (λhp=>?_)<;>simp only[hp]<;>simp
  ·have e:=yR hi hr hp;exact⟨[],by constructor<;>simp[aI,aJ,e]⟩
  ·refine hB _ ⟨k+1,by omega,by simp[ht,hi,hp]⟩ [] ?_ (by simp;omega);constructor<;>simp[hw,ht,hp]
 ·simp;rw[bX]at hi;have e:iZ p l= -1:=yQ (λx hx=>by have:=dP.1 hi x hx;simpa using this);exact⟨[],by constructor<;>simp[aI,aJ,e]⟩
theorem ziO (l:List dB)(kf:D)(p:dB->Bool)(hf:∀x∈l,bN prog (.d kf) [st (iQ x)] (bool (p x)))(hl:l.length<=1000000)(h1:iZ p l= -1):C1 406 [.own 0,.d kf] [] [(0,.grow 3 (l.map iQ) 277)] (.own 0) [(0,.grow 3 (l.map iQ) 277)]:=by
 refine Ct.B func406 ?_;simp;refine CI.cc [0] (Nt l kf p hf (by omega)) ?_;simp;simp[h1];exact⟨[],by constructor<;>simp[aI,aJ]⟩
theorem ziM (l:List dB)(kf:D)(p:dB->Bool)(hf:∀x∈l,bN prog (.d kf) [st (iQ x)] (bool (p x)))(hl:l.length<=1000000)(i:Nat)(x:dB)(h1:iZ p l=i)(h2:i<l.length):C1 406 [.own 0,.d kf] [] [(0,.grow 3 (l.map iQ) 277)] (.sl 0 3 0 (l.filter λx=>!p x).length) [(0,.grow 3 ((l.filter λx=>!p x).map iQ++List.replicate (l.length-(l.filter λx=>!p x).length) [iD 0,iD 0,.v (.slice none 0 0)]) 277)]:=by
 refine Ct.B func406 ?_;simp;refine CI.cc [0] (Nt l kf p hf (by omega)) ?_;simp;have hne:¬(i:Int)= -1:=by omega
 have hwi:IntKind.wrap .i64 ((i:Int)+1)=i+1:=wz _;simp[h1,hne,hwi];have d0:=pW.start (x:=x) h1 h2;refine aH.inv mixed rfl (ι:={q:Nat×Nat×List dB//pW p l q.1 q.2.1 q.2.2}) (λk=>[(0,.own 0),(1,.d kf),(5,int k.1.2.1),(6,int k.1.1)]) (λk=>[(0,.grow 3 (k.1.2.2.map iQ) 277)]) 64 (λk=>l.length-k.1.1) ⟨(i+1,i,l),d0⟩ [] (by constructor<;>simp) ?_;rintro⟨⟨j,i,cur⟩,hd⟩ B hB;clear h1 h2 hne hwi d0;have hlen:=hd.len;have hlt:=hd.lt;have hle:=hd.le;simp only at hlen hlt hle;have w1:IntKind.wrap .i64 ((j:Int)+1)=j+1:=wz _;have w2:IntKind.wrap .i64 ((i:Int)+1)=i+1:=wz _;refine CI.n ?_;simp[hlen];refine aX (λh zz=>?_) (λh zz=>?_)<;>simp only[zz]<;>simp
 ·have hj:j<l.length:=by omega
  have hv:l[j]? =some l[j]:=bO hj;have hm:l[j]∈l:=mF hj;generalize l[j]=v at hv hm;have hg:=hd.get hv;have hjc:j<cur.length:=by omega
  have hgx:cur[j]=v:=by rw[bO hjc]at hg;exact mW hg
  simp[hjc,hgx];refine CI.ff (hf v hm) rfl rfl rfl ?_;simp;have hic:i<cur.length:=by omega
  refine bQ (λh2=>?_) (λh2=>?_)<;>simp only[h2]<;>simp[hic]
  ·have hp:p v=false:=by simpa using h2
   refine hB _ ⟨(j+1,i+1,cur.set i v),hd.keep hv hp⟩ [] ?_ (by simp;omega);constructor<;>simp[w1,w2,GD]
  ·have hp:p v=true:=by simpa using h2
   refine hB _ ⟨(j+1,i,cur),hd.del hv hp⟩ [] ?_ (by simp;omega);constructor<;>simp[w1]
 ·have hj:j=l.length:=by omega
  subst hj;have e:cur.take i=l.filter (λx=>!p x):=hd.done;simp[hlen];have e2:List.take i (List.map iQ cur)=List.map iQ (List.filter (λx=>!p x) l):=by rw[<-zB,e]
  have e3:(List.filter (λx=>!p x) l).length=i:=by rw[<-e,CL];omega
  refine⟨by omega,by omega,by omega,?_⟩;have e4:List.drop (i+(l.length-i)) (List.map iQ cur)=[]:=by rw[JU];simp;omega
  rw[e2,e3,e4];exact⟨[],by constructor<;>simp[aI,aJ]⟩
theorem ziK (l:List dB)(kf:D)(p:dB->Bool)(hf:∀x∈l,bN prog (.d kf) [st (iQ x)] (bool (p x)))(hl:l.length<=1000000):C1 406 [.own 0,.d kf] [] [(0,.grow 3 (l.map iQ) 277)] (.own 64) [(64,.grow 3 ((l.filter λx=>!p x).map iQ) 277)]:=by
 rcases IP p l with⟨h1,h2⟩|⟨i,x,h1,h2,h3,h4⟩
 ·have e:(l.filter λx=>!p x)=l:=by
   rw[JS];intro a ha;have:=MX.1 h2 a ha;simpa using this
  have:=Ct.NH (Or.inl ⟨rfl,rfl⟩) (bY _) (ziO l kf p hf hl h1);rw[bX]at this;rw[e];exact this
 ·have:=Ct.NH (Or.inr rfl) (by simp) (ziM l kf p hf hl i x h1 h2);rw[List.take_left' (by simp)]at this;exact this
theorem zjf :C1 407 [aB []] [] [] (.own 64) [(64,.grow 3 [] 277)]:=by
 refine Ct.BS func407 mixed 2 400 ?_;simp;refine⟨?_,?_⟩
 ·refine CI.RX mixed (ι:=Unit) (λ_=>[(2,.d (.v (.slice none 0 0)))]) (λ_=>[]) 65 rfl (λB hB=>?_) (λ_=>?_)
  ·refine CI.n ?_;simp;refine hB _ () [] ?_;constructor<;>simp
  ·refine CI.gH 2 3 277 rfl rfl ?_;refine CI.n ?_;simp;exact⟨[(64,65)],by constructor<;>simp[aI,aJ]⟩
 ·skip
  exact⟨[(64,384)],by constructor<;>simp[aI,aJ]⟩
theorem zjc (l:List dB)(hl:l.length<=1000000):C1 407 [aB (l.map iQ)] [] [] (.own 64) [(64,.grow 3 (l.map iQ) 277)]:=by
 cases l with
 |nil=>exact zjf
 |cons x l=>exact Qu x l (by simp at hl;omega)
theorem JX (n a b:Int):C0 498 [int n,int a,int b] (bool (decide (a<=n)&&decide (n<=b))):=by
 refine Ct.B func498 ?_;simp
 repeat' first
  | (refine bM (λh=>?_) (λh=>?_)<;>simp only[h]<;>simp[h])
  | (refine bQ (λh=>?_) (λh=>?_)<;>simp only[h]<;>simp[h])
  | (refine⟨(show jG _ _ from by decide+kernel),?_⟩)
  |fail
 all_goals exact aA (by simp[*])
theorem QQ (p:cM)(h:p.aR.length<=9223372036854775807):C0 342 [st (fY p)] (int ((p.aR.length:Int)-1)):=by
 refine Ct.B func342 ?_;simp;have hw:IntKind.wrap .i64 ((p.aR.length:Int)-1)=p.aR.length-1:=wz _;exact aA (by simp[hw])
theorem YI (s:dB):C0 408 [st (iQ s)] (bool (decide (s.pins=0))):=by
 refine Ct.B func408 ?_;simp;exact aA
theorem Ey (p:cM)(hl:p.aR.length<=1000000)(hn:p.next<=2147483648):C0 401 [st (fY p)] (bool (jR p)):=by
 refine Ct.B func401 ?_;simp;refine aH.inv mixed rfl (ι:={k:Nat//k<=(p.aR).length/\(eM p.next 0 p.aR=eM p.next (uK (p.aR.take k)) (p.aR.drop k)/\0<=uK (p.aR.take k)/\uK (p.aR.take k)<=2147483648)}) (λk=>[(1,.ptr 64 0),(3,int (uK (p.aR.take k.1))),(8,aB (p.aR.map iQ)),(9,int p.aR.length),(10,int k.1)]) (λk=>[(64,.cells ((fY p).map .d) 100)]) 65 (λk=>(p.aR).length-k.1) ⟨0,by omega,by simp⟩ [] (by constructor<;>simp) ?_;rintro⟨k,hk1,hi⟩ B hB;refine CI.n ?_;simp;rcases bC hk1 with⟨s,hk,hx,hr,hm,ht,hd,hw,h⟩|rfl
 ·simp[h,hr,hw];obtain⟨i1,i2,i3⟩:=hi;have wA:=wz (uK (p.aR.take k)+1);refine CI.p (QQ p (by omega)) ?_;simp;have hsl:jR p=(eM p.next (uK (p.aR.take k)) (s::p.aR.drop (k+1))&&bG p.next 2147483647&&decide (p.aR.length<=1000)):=by rw[jR,i1,hd]
  have hlast:p.aR.drop (k+1)=[]↔(k:Int)=p.aR.length-1:=by rw[JU];omega
  refine bQ (λh1=>?_) (λh1=>?_)<;>simp only[h1]<;>simp
  ·have h1':p.aR.drop (k+1)=[]:=hlast.2 (by simpa using h1);simp[wA];refine CI.p (JX s.id (uK (p.aR.take k)+1) p.next) ?_;simp;refine bM (λh2=>?_) (λh2=>?_)<;>simp only[h2]<;>simp
   ·have h2':¬(uK (p.aR.take k)+1<=s.id/\s.id<=p.next):=by simp at h2;omega
    have e:jR p=false:=by rw[hsl];simp[eM,h1'];omega
    exact aA (by simp[e])
   ·skip
    refine CI.p (JX s.pins 0 10000) ?_;simp;refine bQ (λh3=>?_) (λh3=>?_)<;>simp only[h3]<;>simp
    ·have h3':¬(0<=s.pins/\s.pins<=10000):=by simp at h3;omega
     have e:jR p=false:=by rw[hsl];simp[eM,h1'];omega
     exact aA (by simp[e])
    ·have h2':uK (p.aR.take k)+1<=s.id/\s.id<=p.next:=by simp at h2;omega
     have h3':0<=s.pins/\s.pins<=10000:=by simp at h3;omega
     refine hB _ ⟨k+1,by omega,by rw[ht,I5,i1,hd];simp[eM,h1',h2',h3'],by rw[ht,I5];omega,by rw[ht,I5];omega⟩ [] ?_ (by simp;omega);constructor<;>simp[hw,ht]
  ·have h1':¬p.aR.drop (k+1)=[]:=λe=>by rw[hlast]at e;simp[e]at h1
   simp[wA];refine CI.p (JX s.id (uK (p.aR.take k)+1) p.next) ?_;simp;refine bM (λh2=>?_) (λh2=>?_)<;>simp only[h2]<;>simp
   ·have h2':¬(uK (p.aR.take k)+1<=s.id/\s.id<=p.next):=by simp at h2;omega
    have e:jR p=false:=by rw[hsl,eM,aT h1'];simp;omega
    exact aA (by simp[e])
   ·skip
    refine CI.p (JX s.pins 1 10000) ?_;simp;refine bQ (λh3=>?_) (λh3=>?_)<;>simp only[h3]<;>simp
    ·have h3':¬(1<=s.pins/\s.pins<=10000):=by simp at h3;omega
     have e:jR p=false:=by rw[hsl,eM,aT h1'];simp;omega
     exact aA (by simp[e])
    ·have h2':uK (p.aR.take k)+1<=s.id/\s.id<=p.next:=by simp at h2;omega
     have h3':1<=s.pins/\s.pins<=10000:=by simp at h3;omega
     refine hB _ ⟨k+1,by omega,by rw[ht,I5,i1,hd,eM,aT h1'];simp[h2',h3'],by rw[ht,I5];omega,by rw[ht,I5];omega⟩ [] ?_ (by simp;omega);constructor<;>simp[hw,ht]
 ·simp;obtain⟨i1,i2,i3⟩:=hi;have e:jR p=(decide (0<=p.next)&&decide (p.next<=2147483647)&&decide ((p.aR.length:Int)<=1000)):=by
   have e2:decide (p.aR.length<=1000)=decide ((p.aR.length:Int)<=1000):=EF.2 (by omega);rw[jR,i1,yC,e2];simp[eM,bG]
  refine CI.p (JX p.next 0 2147483647) ?_;simp;refine bM (λh2=>?_) (λh2=>?_)<;>simp only[h2]<;>simp
  ·exact aA (by simp[e,h2])
  ·exact aA (by simp[e,h2])
theorem GU (p:cM)(hp:mD p):C0 341 [st (fY p)] (st (fY (eY p))):=by
 refine Ct.B func341 ?_;simp;refine CI.p (Ey p hp.sl hp.next) ?_;simp;refine aX (λh1 zz=>?_) (λh1 zz=>?_)<;>simp only[zz]<;>simp
 ·exact aA (by simp[eY,h1])
 ·exact aA (by simp[eY,h1])
abbrev Ql (o:Option dB):AV:=.aU [int ((o.map (·.id)).getD 0),aB (((o.map (·.l)).getD []).map aF),bool o.isSome]
theorem Qk (p:cM)(hp:mD p):C0 247 [st (fY p)] (Ql (wR p)):=by
 refine Ct.B func247 ?_;simp;refine CI.p (GU p hp) ?_;simp;have hs:=v8 p;have hh:wR p=(eY p).aR.getLast? :=rfl;rw[hh];clear hh;generalize eY p=q at hs⊢;refine CI.p (QQ q (by omega)) ?_;simp;rcases QO q.aR with e|⟨i,s,e⟩
 ·simp[e];exact aA (by simp[e])
 ·have e1:((q.aR.length:Int)-1)=i.length:=by rw[e];simp
  have e2:¬(i.length:Int)<0:=by omega
  have e3:i.length<q.aR.length:=by rw[e];simp
  have e4:q.aR[i.length]=s:=by simp[e]
  simp[e1,e2,e3,e4];refine dr ?_;exact aA (by simp[e])
theorem Y3 (l:List dB):(l.flatMap (·.l)).map aC.key=l.flatMap λs=>s.l.map aC.key:=by rw[List.map_flatMap]
theorem Q3 (p:cM)(hp:mD p):C0 409 [st (fY p)] (aB ((gI p).map aQ)):=by
 refine Ct.B func409 ?_;simp;refine CI.p (GU p hp) ?_;simp;have hs:=v8 p;have hq:=hp.sound.aR;have hh:gI p=((eY p).aR.flatMap λs=>s.l.map aC.key).foldl iW []:=by rw[<-Y3];rfl
 rw[hh];clear hh;generalize(eY p).aR=l at hs hq⊢;refine aH.gH 3 2 184 rfl ?_;refine aH.V (l) (λk=>[(3,.own 64),(8,aB (l.map iQ)),(9,int l.length),(10,int k.1)]) (λk=>[(64,.grow 2 (((l.take k.1).flatMap λs=>s.l.map aC.key).map aQ) 184)]) 65 (λk hk1 B hB=>?_);simp;rcases bC hk1 with⟨s,hk,hx,hr,hm,ht,hd,hw,h⟩|rfl
 ·simp[h,hr,hw];have h64:=(hq s hm).2;have hfl:((l.take k).flatMap λs=>s.l.map aC.key).length<=64000:=by
   have:=U6 (l:=l.take k) λq hm=>(hq q (pY hm)).2;rw[<-Y3,zD];simp at this⊢;omega
  have hsm:(List.take k (List.map (λa=>a.l.length) l)).sum<=64000:=by simpa[zB]using hfl
  refine CI.cc [] (QU s.l (by omega)) ?_;simp;refine⟨by omega,?_⟩;exact hB hk (by constructor<;>simp[hw,ht])
 ·simp;have hfl:(l.flatMap λs=>s.l.map aC.key).length<=64000:=by
   have:=U6 (l:=l) λq hm=>(hq q hm).2;rw[<-Y3,zD];omega
  refine CI.cc [64] (OE (l.flatMap λs=>s.l.map aC.key) (by omega)) ?_;simp;refine CI.cc [64] (R1 (uT (l.flatMap λs=>s.l.map aC.key)) (by rw[KD];omega)) ?_;simp;rw[Qr];exact aA
theorem zcS (p:cM)(l:List aC)(hp:mD p):C0 318 [st (fY p),aB (l.map aF)] (.aU [st (fY (nR p l).1),int (nR p l).2.1,int (nR p l).2.2]):=by
 refine Ct.B func318 ?_;simp;refine CI.p (GU p hp) ?_;simp;have hs:=v8 p;have hn:=hp.sound.next;have h0:=(pJ.1 (xB p)).2.1;have hh:nR p l=uZ (eY p) l:=rfl;rw[hh];clear hh;generalize eY p=q at hs hn h0⊢;have hw:=wz (q.next+1);refine aX (λh1 zz=>?_) (λh1 zz=>?_)<;>simp only[zz]<;>simp
 ·exact aA (by simp[uZ,h1])
 obtain⟨nx,sn⟩:=q;simp only at hs hn h0 hw h1;have hf:(sn.filter λx=>!decide (x.pins=0)).length<=1000:=dH (gJ _ _) hs;refine CI.cc [] (zjc sn (by omega)) ?_;simp;refine CI.cc [832] (ziK sn (dE 408) (λs=>decide (s.pins=0)) (λs _=>bN.of (YI s) call408 rfl rfl) (by omega)) ?_;simp;have e:(uB ⟨nx,sn⟩)=sn.filter λx=>!decide (x.pins=0):=rfl;rw[<-e]at hf;rw[<-e];refine aX (λh2 zz=>?_) (λh2 zz=>?_)<;>simp only[zz]<;>simp
 ·have h2':1000<=(uB ⟨nx,sn⟩).length:=by omega
  exact aA (by simp[uZ,h1,h2'])
 ·have h2':¬1000<=(uB ⟨nx,sn⟩).length:=by omega
  simp[hw];refine⟨by omega,?_⟩;exact aA (by simp[uZ,h1,h2'])
attribute [simp] ntmps96 results96 ntmps400 results400 ntmps403 results403 ntmps405 results405 ntmps317 results317
theorem Ks (n:Int):C0 96 [int n] (st (sQ (tX n))):=by
 refine Ct.B func96 ?_;simp;refine CI.p (Kv n) ?_;simp;exact aA (by simp[tX,r9])
theorem Ep (w:kS)(hs:cL w.shown):C0 400 [st (sQ w)] (bool (oV w)):=by
 refine Ct.B func400 ?_;simp;refine CI.p (Fc w.c) ?_;simp;refine bM (λh1=>?_) (λh1=>?_)<;>simp only[h1]<;>simp
 ·refine CI.p (Dr w.c) ?_;simp;refine CI.p (J6 w.shown (rU w.c) hs) ?_;simp;refine bM (λh2=>?_) (λh2=>?_)<;>simp only[h2]<;>simp
  ·refine bM (λh3=>?_) (λh3=>?_)<;>simp only[h3]<;>simp
   ·refine dr ?_;exact aA (by simp[oV,h1,h2,h3])
   ·refine dr ?_;exact aA (by simp[oV,h1,h2,h3])
  ·refine dr ?_;exact aA (by simp[oV,h1,h2])
 ·refine dr ?_;exact aA (by simp[oV,h1])
theorem Zg (w:kS)(hs:cL w.shown):C0 403 [st (sQ w)] (st (sQ (p8 w))):=by
 refine Ct.B func403 ?_;simp;refine CI.p (Ep w hs) ?_;simp;refine aX (λh1 zz=>?_) (λh1 zz=>?_)<;>simp only[zz]<;>simp
 ·refine CI.p (Ks w.c.cap) ?_;simp;exact aA (by simp[p8,h1])
 ·exact aA (by simp[p8,h1])
abbrev Lf (w:kS)(b:Bool):List (Nat×aY):=[(0,.cells ((sQ w++[bD b]).map .d) 524)]
theorem Wv (w:kS)(c:Cache)(hc:cL c.l):C1 405 [.ptr 0 0,st (l6 c)] [] (Lf w false) (.aU []) (Lf (uR w c).1 (uR w c).2):=by
 refine Ct.B func405 ?_;simp;refine CI.p (Dr c) ?_;simp;refine CI.p (J6 (rU c) w.shown (Jc hc)) ?_;simp;refine aX (λh1 zz=>?_) (λh1 zz=>?_)<;>simp only[zz]<;>simp
 ·refine⟨[],?_,?_,?_,?_,?_,?_,?_⟩<;>simp[aI,aJ,uR,h1]
 ·refine⟨[],?_,?_,?_,?_,?_,?_,?_⟩<;>simp[aI,aJ,uR,h1]
theorem Xw (w:kS)(aD:List aC)(gone:List Key)(hs:cL w.shown)(hc:cL w.c.l)(ha:cL aD)(hl:aD.length<=1000)(hg:gone.length<=9223372036854775807):C0 317 [st (sQ w),aB (aD.map aF),aB (gone.map aQ)] (.aU [st (sQ (lU w aD gone).1),bool (lU w aD gone).2.1,int (lU w aD gone).2.2]):=by
 refine Ct.B func317 ?_;simp;refine CI.p (Zg w hs) ?_;simp;have hh:lU w aD gone=sR (p8 w) aD gone:=rfl;rw[hh];clear hh;obtain⟨h1,h2⟩:=Ja hc hs;generalize p8 w=q at h1 h2⊢;refine CI.p (zkO q.c aD gone hl hg) ?_;simp;have h3:=Jn (gone:=gone) h1 ha hl;refine aX (λh4 zz=>?_) (λh4 zz=>?_)<;>simp only[zz]<;>simp
 ·exact aA (by simp[sR,h4])
 ·refine CI.cc [512] (Wv q (tJ q.c aD gone).1 h3) ?_;simp;refine dr ?_;exact aA (by simp[sR,h4])
attribute [simp] ntmps315 results315 ntmps230 results230 ntmps95 results95 ntmps57 results57 ntmps397 results397 ntmps399 results399 ntmps231 results231 ntmps319 results319 ntmps402 results402 ntmps495 results495 ntmps398 results398 ntmps314 results314 ntmps228 results228 ntmps320 results320 ntmps233 results233 ntmps229 results229 ntmps239 results239 ntmps232 results232 ntmps163 results163 ntmps172 results172
theorem zgD (i:Nonce.Nn):C0 315 [st (wJ i)] (st (wJ (Nonce.xR i))):=by
 refine Ct.B func315 ?_;simp;refine CI.p (U3 i) ?_;simp;refine bQ (λh1=>?_) (λh1=>?_)<;>simp only[h1]<;>simp
 ·exact aA (by simp[Nonce.xR,h1])
 ·refine CI.p (N7 i.m) ?_;simp;exact aA (by simp[Nonce.xR,h1])
theorem Wy (i:Nonce.Nn)(k_ n:Int):C0 230 [st (wJ i),int k_,int n] (.aU [st (wJ (Nonce.take i k_ n).1),int (Nonce.take i k_ n).2]):=by
 refine Ct.B func230 ?_;simp;refine CI.p (zgD i) ?_;simp;simp only[Nonce.take];have hb:=Nonce.Ns i;generalize Nonce.xR i=q at hb⊢;obtain⟨A,B,C,D,M⟩:=q;simp only[Nonce.Nn.ok]at hb;have wA:=wz (A+1);have wB:=wz (B+1);have wC:=wz (C+1);have wD:=wz (D+1);refine CI.p (X5 k_) ?_;simp;by_cases hk:Nonce.iR k_=true
 ·rcases Nonce.IC hk with rfl|rfl|rfl|rfl
  all_goals
   simp[hk]
  all_goals
   repeat' first
    | (refine bM (λh=>?_) (λh=>?_)<;>simp only[h]<;>simp[h,wA,wB,wC,wD])
    | (refine bQ (λh=>?_) (λh=>?_)<;>simp only[h]<;>simp[h,wA,wB,wC,wD])
    | (refine⟨(show jG _ _ from by decide+kernel),?_⟩)
    |fail
  all_goals
   clear wA wB wC wD;simp only[EK,Bool.not_eq_false',dA,JH]at*;first
    | (exfalso;omega)
    | (refine aA ?_ rfl;simp[Nonce.lF,Nonce.Nn.last,Nonce.Nn.set, *];done)
    | (refine aA ?_ rfl;simp_all[Nonce.lF,Nonce.Nn.last,Nonce.Nn.set];done)
    | (refine aA ?_ rfl;simp_all[Nonce.lF,Nonce.Nn.last,Nonce.Nn.set];split<;>first| (exfalso;omega)|simp_all)
 ·simp[hk];exact aA (by simp[Nonce.lF,hk])
theorem Pa (m:Int):C0 95 [int m] (st (wJ (Nonce.uS m))):=by
 refine Ct.B func95 ?_;simp;refine CI.p (N7 m) ?_;simp;exact aA
theorem wK (l m:Int):C0 57 [int l,int m] (st (dU (r8 l m))):=by
 refine Ct.B func57 ?_;simp;refine CI.p (Pa m) ?_;simp;refine CI.p (Ks l) ?_;simp;exact aA (by simp[r8,tX,r9])
theorem Ka (n:Int):C0 397 [int n] (bool (bG n 2147483647)):=by
 refine Ct.B func397 ?_;simp
 repeat' first
  | (refine bM (λh=>?_) (λh=>?_)<;>simp only[h]<;>simp[h])
  | (refine bQ (λh=>?_) (λh=>?_)<;>simp only[h]<;>simp[h])
  | (refine⟨(show jG _ _ from by decide+kernel),?_⟩)
  |fail
 all_goals exact aA (by simp[*,bG])
theorem M8 (n:Int):C0 399 [int n] (bool (gL n)):=by
 refine Ct.B func399 ?_;simp;rw[Tv]
 repeat' first
  | (refine bM (λh=>?_) (λh=>?_)<;>simp only[h]<;>simp[h])
  | (refine bQ (λh=>?_) (λh=>?_)<;>simp only[h]<;>simp[h])
  | (refine⟨(show jG _ _ from by decide+kernel),?_⟩)
  |fail
 all_goals exact aA (by simp[*])
theorem LI (s:bS):C0 231 [st (dU s)] (bool (nW s)):=by
 refine Ct.B func231 ?_;simp;exact aA (by simp[nW])
theorem VT (p:cM)(hp:mD p):C0 319 [st (fY p)] (bool (wG p)):=by
 refine Ct.B func319 ?_;simp;have hl:=Q4 hp;refine CI.p (Q3 p hp) ?_;simp;refine CI.p (FM ⟨3,0,0,0,0,[],[],0,[],gI p⟩ (ZC (v:=⟨[],gI p,0,eV,false⟩) (by simp only;omega))) ?_;simp;exact aA (by simp[wG])
theorem zk3 (s:bS)(h:dL s):C0 402 [st (dU s)] (bool (wU s)):=by
 refine Ct.B func402 ?_;simp;refine CI.p (Qk s.p h.pins) ?_;simp;cases hc:wR s.p with
 |none=>
  simp[hc];refine aX (λh1 zz=>?_) (λh1 zz=>?_)<;>simp only[zz]<;>simp
  ·exact aA (by simp[wU,hc,h1])
  ·exact aA (by simp[wU,hc,h1])
 |some c=>
  have hok:cL c.l:=by
   have:c∈(eY s.p).aR:=MT hc;exact(h.pins.sound.aR c this).1
  simp[hc];refine aX (λh1 zz=>?_) (λh1 zz=>?_)<;>simp only[zz]<;>simp
  ·exact aA (by simp[wU,hc,h1])
  ·refine CI.p (J6 c.l s.w.shown hok) ?_;simp;exact aA (by simp[wU,hc,h1])
theorem zgP (e:iV):C0 495 [.d (.ro true [[iD e.e0],[iD e.e1],[iD e.e2],[iD e.e3]]),.d (dE 399)] (int (if gL e.e0=true then 0 else if gL e.e1=true then 1 else if gL e.e2=true then 2 else if gL e.e3=true then 3 else-1)):=by
 refine Ct.B func495 ?_;simp;refine aH.un ?_;simp;refine CI.ff (bN.of (M8 e.e0) call399 rfl rfl) rfl rfl rfl ?_;simp;refine bQ (λh1=>?_) (λh1=>?_)<;>simp only[h1]<;>simp
 ·exact aA (by simp[h1])
 refine aH.un ?_;simp;refine CI.ff (bN.of (M8 e.e1) call399 rfl rfl) rfl rfl rfl ?_;simp;refine bQ (λh2=>?_) (λh2=>?_)<;>simp only[h2]<;>simp
 ·exact aA (by simp[h1,h2])
 refine aH.un ?_;simp;refine CI.ff (bN.of (M8 e.e2) call399 rfl rfl) rfl rfl rfl ?_;simp;refine bQ (λh3=>?_) (λh3=>?_)<;>simp only[h3]<;>simp
 ·exact aA (by simp[h1,h2,h3])
 refine aH.un ?_;simp;refine CI.ff (bN.of (M8 e.e3) call399 rfl rfl) rfl rfl rfl ?_;simp;refine bQ (λh4=>?_) (λh4=>?_)<;>simp only[h4]<;>simp
 ·exact aA (by simp[h1,h2,h3,h4])
 refine aH.un ?_;simp;exact aA (by simp[h1,h2,h3,h4])
theorem zkT (e:iV):C0 398 [.d (.ro true [[iD e.e0],[iD e.e1],[iD e.e2],[iD e.e3]]),.d (dE 399)] (bool (gL e.e0||gL e.e1||gL e.e2||gL e.e3)):=by
 refine Ct.B func398 ?_;simp;refine CI.p (zgP e) ?_;simp;cases h0:gL e.e0<;>cases h1:gL e.e1<;>cases h2:gL e.e2<;>cases h3:gL e.e3;all_goals
  simp[h0,h1,h2,h3]
 all_goals
  exact aA (by simp[h0,h1,h2,h3])
theorem Eo (s:bS)(h:dL s):C0 314 [st (dU s)] (bool (dI s)):=by
 refine Ct.BS func314 mixed 1 400 ?_;simp;refine CI.s (tm:=[(1,.d (.bE (dU s)))]) (mm:=[]) (nx:=65) [] [64] (by constructor<;>simp) ?_;refine CI.n ?_;simp;refine CI.p (Ka s.aM) ?_;simp;refine bM (λh1=>?_) (λh1=>?_)<;>simp only[h1]<;>simp
 ·refine CI.p (Ka s.turn) ?_;simp;refine bM (λh2=>?_) (λh2=>?_)<;>simp only[h2]<;>simp
  ·refine CI.arr Ci Cj 99 ?_;simp;refine CI.p (zkT s.fS) ?_;simp;refine bM (λh3=>?_) (λh3=>?_)<;>simp only[h3]<;>simp
   ·refine CI.p (U3 s.iT) ?_;simp;refine bM (λh4=>?_) (λh4=>?_)<;>simp only[h4]<;>simp
    ·refine CI.p (Ep s.w h.shown) ?_;simp;refine bM (λh5=>?_) (λh5=>?_)<;>simp only[h5]<;>simp
     ·refine CI.p (Ey s.p h.sl h.next) ?_;simp;refine bM (λh6=>?_) (λh6=>?_)<;>simp only[h6]<;>simp
      ·refine CI.p (VT s.p h.pins) ?_;simp;refine bM (λh7=>?_) (λh7=>?_)<;>simp only[h7]<;>simp
       ·refine CI.p (zk3 s h) ?_;simp;exact aA (by simp[dI,h1,h2,h3,h4,h5,h6,h7])
       ·exact aA (by simp[dI,h7])
      ·exact aA (by simp[dI,h6])
     ·exact aA (by simp[dI,h5])
    ·exact aA (by simp[dI,h4])
   ·have h3':(gL s.fS.e0||gL s.fS.e1||gL s.fS.e2||gL s.fS.e3)=true:=by
     cases hb:(gL s.fS.e0||gL s.fS.e1||gL s.fS.e2||gL s.fS.e3)with
     |true=>rfl
     |false=>simp only[M4]at hb;simp[hb]at h3
    have e:dI s=false:=by unfold dI;rw[h3'];simp
    exact aA (by simp[e])
  ·exact aA (by simp[dI,h2])
 ·exact aA (by simp[dI,h1])
theorem KA (s:bS)(h:dL s):C0 228 [st (dU s)] (st (dU (fF s))):=by
 refine Ct.B func228 ?_;simp;refine CI.p (Eo s h) ?_;simp;refine aX (λh1 zz=>?_) (λh1 zz=>?_)<;>simp only[zz]<;>simp
 ·refine CI.p (wK s.w.c.cap s.iT.m) ?_;simp;exact aA (by simp[fF,h1])
 ·exact aA (by simp[fF,h1])
theorem G7 (s:bS)(f:G.Frame)(h:dL s)(ht:s.turn<=2147483647)(ht0:0<=s.turn):C0 320 [st (dU s),st (cA f)] (.aU [st (dU (oT s)),st (cA {f with turn:=s.turn+1,held:=gI s.p})]):=by
 refine Ct.B func320 ?_;simp;have hw:=wz (s.turn+1);simp[hw];refine CI.p (Q3 s.p h.pins) ?_;simp;refine dr ?_;refine dr ?_;exact aA (by simp[oT])
theorem Sz (s:bS)(f:G.Frame)(h:dL s)(ht:s.turn<=2147483647)(ht0:0<=s.turn)(hk:f.kind=0\/f.kind=1\/f.kind=2\/f.kind=3):C0 233 [st (dU s),st (cA f)] (.aU [st (dU (rN s f).1),aB ((rN s f).2.map cA)]):=by
 refine Ct.B func233 ?_;simp;rcases hk with hk|hk|hk|hk
 all_goals
  simp[hk]
 ·refine CI.p (G7 s ⟨2,f.aM,f.kind,f.cN,0,[],[],s.fS.e0,[],[]⟩ h ht ht0) ?_ (ha:=by simp[hk]);simp[hk];refine dr ?_;refine dr ?_;exact aA (by simp[rN,iV.get,hk])
 ·refine CI.p (G7 s ⟨2,f.aM,f.kind,f.cN,0,[],[],s.fS.e1,[],[]⟩ h ht ht0) ?_ (ha:=by simp[hk]);simp[hk];refine dr ?_;refine dr ?_;exact aA (by simp[rN,iV.get,hk])
 ·refine CI.p (G7 s ⟨2,f.aM,f.kind,f.cN,0,[],[],s.fS.e2,[],[]⟩ h ht ht0) ?_ (ha:=by simp[hk]);simp[hk];refine dr ?_;refine dr ?_;exact aA (by simp[rN,iV.get,hk])
 ·refine CI.p (G7 s ⟨2,f.aM,f.kind,f.cN,0,[],[],s.fS.e3,[],[]⟩ h ht ht0) ?_ (ha:=by simp[hk]);simp[hk];refine dr ?_;refine dr ?_;exact aA (by simp[rN,iV.get,hk])
theorem zcl (s:bS)(f:G.Frame)(hf:fJ f):C0 229 [st (dU s),st (cA f)] (int (rY s f)):=by
 refine Ct.B func229 ?_;simp;refine aX (λh1 zz=>?_) (λh1 zz=>?_)<;>simp only[zz]<;>simp
 ·exact aA (by simp[rY,h1])
 refine CI.p (FM f hf) ?_;simp;refine aX (λh2 zz=>?_) (λh2 zz=>?_)<;>simp only[zz]<;>simp
 ·exact aA (by simp[rY,h1,h2])
 refine aX (λh3 zz=>?_) (λh3 zz=>?_)<;>simp only[zz]<;>simp
 ·exact aA (by simp[rY,h1,h2,h3])
 refine aX (λh4 zz=>?_) (λh4 zz=>?_)<;>simp only[zz]<;>simp
 ·exact aA (by simp[rY,h1,h2,h3,h4])
 ·exact aA (by simp[rY,h1,h2,h3,h4])
theorem ziS (s:bS)(ep:Int)(h:dL s):C0 239 [st (dU s),int ep] (.aU [st (dU (l5 s ep).1),aB ((l5 s ep).2.1.map cA),int (l5 s ep).2.2]):=by
 refine Ct.B func239 ?_;simp;refine CI.p (KA s h) ?_;simp;have hh:l5 s ep=z8 (fF s) ep:=rfl;rw[hh];clear hh;have ho:=h.sound;have ht:=UB (KB s);generalize fF s=q at ho ht⊢;refine bM (λh1=>?_) (λh1=>?_)<;>simp only[h1]<;>simp
 ·have h1':ep<=q.aM\/2147483647<ep:=.inl (by simpa using h1);exact aA (by simp[z8,h1'])
 refine bQ (λh2=>?_) (λh2=>?_)<;>simp only[h2]<;>simp
 ·have h1':ep<=q.aM\/2147483647<ep:=.inr (by simpa using h2);exact aA (by simp[z8,h1'])
 have h1':¬(ep<=q.aM\/2147483647<ep):=by simp at h1 h2;omega
 refine CI.p (LI q) ?_;simp;refine bQ (λh3=>?_) (λh3=>?_)<;>simp only[h3]<;>simp
 ·exact aA (by simp[z8,h1',h3])
 refine CI.p (Pa q.iT.m) ?_;simp;refine CI.p (Mc q.w.c.l (by have:=ho.cl;omega)) ?_;simp;refine CI.p (G7 {q with aM:=ep,up:=true,iT:=Nonce.uS q.iT.m,fS:=⟨0,0,0,0⟩} ⟨3,ep,0,0,0,[],[],0,[],[]⟩ (.mk' ho.c ho.cl ho.shown ho.pins) ht.2 ht.1) ?_;simp;refine dr ?_;exact aA (by simp[z8,h1',h3,DT,ZE,oT])
theorem Xm (s:bS)(f:G.Frame)(h:dL s)(hf:fJ f)(hl:f.aD.length<=1000)(hk:f.kind=0\/f.kind=1\/f.kind=2\/f.kind=3):C0 232 [st (dU s),st (cA f)] (.aU [st (dU (q9 s f).1),int (q9 s f).2]):=by
 refine Ct.B func232 ?_;simp;refine CI.p (Xw s.w f.aD f.gone h.shown h.c hf.aD hl hf.gone) ?_;simp;obtain⟨o1,o2⟩:=WM (gone:=f.gone) h.c h.shown hf.aD hl;obtain⟨o3,o4⟩:=UU s.w f.aD f.gone;unfold q9;dsimp only;generalize lU s.w f.aD f.gone=W at o1 o2 o3 o4⊢;obtain⟨w',ch,why⟩:=W;simp only at o1 o2 o3 o4⊢;cases ch with
 |false=>
  simp;refine CI.p (VT s.p h.pins) ?_;simp;refine aX (λh1 zz=>?_) (λh1 zz=>?_)<;>simp only[zz]<;>simp
  ·rcases hk with hk|hk|hk|hk
   all_goals
    simp[hk]
   all_goals
    exact aA (by simp[h1,hk,iV.set])
  ·rcases hk with hk|hk|hk|hk
   all_goals
    simp[hk]
   all_goals
    refine dr ?_
   all_goals
    exact aA (by simp[h1,hk,iV.set])
 |true=>
  simp;refine CI.p (zcS s.p w'.shown h.pins) ?_;simp;have op:=WO h.pins o2 o4;refine aX (λh0 zz=>?_) (λh0 zz=>?_)<;>simp only[zz]<;>simp
  ·exact aA (by simp[h0])
  refine CI.p (VT (nR s.p w'.shown).1 op) ?_;simp;refine aX (λh1 zz=>?_) (λh1 zz=>?_)<;>simp only[zz]<;>simp
  ·rcases hk with hk|hk|hk|hk
   all_goals
    simp[hk]
   all_goals
    exact aA (by simp[h0,h1,hk,iV.set])
  ·rcases hk with hk|hk|hk|hk
   all_goals
    simp[hk]
   all_goals
    refine dr ?_
   all_goals
    exact aA (by simp[h0,h1,hk,iV.set])
theorem zas (s:bS)(f:G.Frame)(h:dL s)(hf:fJ f):C0 163 [st (dU s),st (cA f)] (.aU [st (dU (qA s f).1),aB ((qA s f).2.1.map cA),int (qA s f).2.2]):=by
 refine Ct.B func163 ?_;simp;refine CI.p (KA s h) ?_;simp;have hh:qA s f=tS (fF s) f:=rfl;rw[hh];clear hh;have ho:=h.sound;have ht:=UB (KB s);generalize fF s=q at ho ht⊢;refine CI.p (zcl q f hf) ?_;simp;refine aX (λh1 zz=>?_) (λh1 zz=>?_)<;>simp only[zz]<;>simp
 ·exact aA (by simp[tS,h1])
 have F:=VV h1;have hk:=O9 F;have hl:=(sV (j9.1 F).small).1;refine CI.p (Wy q.iT f.kind f.cN) ?_;simp;refine aX (λh2 zz=>?_) (λh2 zz=>?_)<;>simp only[zz]<;>simp
 ·refine CI.p (LI q) ?_;simp;refine aX (λh3 zz=>?_) (λh3 zz=>?_)<;>simp only[zz]<;>simp
  ·exact aA (by simp[tS,h1,h2,h3])
  refine CI.p (Xm q f ho hf (by omega) hk) ?_;simp;have hos:=ho.step hf.aD (show f.aD.length<=1000 by omega);have htu:=Xt q f;refine aX (λh4 zz=>?_) (λh4 zz=>?_)<;>simp only[zz]<;>simp
  ·exact aA (by simp[tS,h1,h2,h3,h4])
  refine CI.p (LI q) ?_ (ha:=by simp[h3]);simp[h3];refine CI.p (Sz {(q9 q f).1 with iT:=(Nonce.take q.iT f.kind f.cN).1} f (.mk' hos.c hos.cl hos.shown hos.pins) (by simp only[htu];exact ht.2) (by simp only[htu];exact ht.1) hk) ?_;simp;exact aA (by simp[tS,h1,h2,h3,h4])
 ·refine aX (λh5 zz=>?_) (λh5 zz=>?_)<;>simp only[zz]<;>simp
  ·refine CI.p (LI q) ?_;simp;refine aX (λh3 zz=>?_) (λh3 zz=>?_)<;>simp only[zz]<;>simp
   ·exact aA (by simp[tS,h1,h2,h3,h5])
   refine CI.p (Sz q f ho ht.2 ht.1 hk) ?_;simp;exact aA (by simp[tS,h1,h2,h3,h5])
  ·exact aA (by simp[tS,h1,h2,h5])
theorem zat (s:bS)(h:dL s):C0 172 [st (dU s)] (.aU [aB ((((uW s).map (·.l)).getD []).map aF),bool (uW s).isSome]):=by
 refine Ct.B func172 ?_;simp;refine CI.p (KA s h) ?_;simp;have hh:uW s=wR (fF s).p:=rfl;rw[hh];refine CI.p (Qk (fF s).p h.sound.pins) ?_;simp;exact aA
attribute [simp] ntmps39 results39
theorem oG (s:cW)(p:aW)(hs:rP s)(hl:s.v.aP.length<=1000000)(hpl:p.bA.length<=1000000):C0 39 [st (iB s),st (eW p)] (bool (nC s p)):=by
 refine Ct.B func39 ?_;simp;refine CI.p (U2 s hs hl) ?_;simp;have ho:=(OB hs).v.aP;have hh:nC s p=((hZ s).oL&& !(hZ s).v.open_&&decide ((hZ s).v.aP=fE p)):=rfl;rw[hh];clear hh;generalize hZ s=q at ho⊢;refine CI.p (DG p hpl) ?_;simp;refine bM (λh1=>?_) (λh1=>?_)<;>simp only[h1]<;>simp
 ·refine bM (λh2=>?_) (λh2=>?_)<;>simp only[h2]<;>simp
  ·refine CI.p (J6 q.v.aP (fE p) ho) ?_ (ha:=by simp[fE]);simp[fE];exact aA (by simp[h1,h2])
  ·exact aA (by simp[h1,h2])
 ·exact aA (by simp[h1])
end Go.Proofs.YtobcmagefgdgdaaGreatDoor
