/-
  LAYERS 16 to 20: the walks of caches, of pins, of what is warm, of sidecars, of what is settled.
-/
import Derived.Test.YtjoaclgkjhncjaaGreatDoorWe
import Derived.Test.YtjoaclgkjhncjaaGreatDoorPs
import Derived.Defers
import Derived.Recover
import Derived.Tactics
import Derived.Tactics2
import Derived.WalkLawsBesides
import Derived.Test.YtjoaclgkjhncjaaGreatDoorWf
import Derived.Test.YtjoaclgkjhncjaaGreatDoorFd
import Derived.Test.YtjoaclgkjhncjaaGreatDoorWh
set_option linter.unusedSimpArgs false
set_option linter.unusedVariables false
namespace Go.Proofs.YtjoaclgkjhncjaaGreatDoor
open Go.AI Go.G
set_option maxRecDepth 20000
abbrev badV (n:Int):Value:=.iface 424 (.agg #[.int .i64 n])
theorem qup (w:World)(v:Value):(Instr.typeAssert (.iface 424 v) 20 424 false).run Tryz.prog w=.ok v w:=by kernel_rfl
theorem qwu (w:World)(n:Int):(Instr.field 424 (.agg #[.int .i64 n]) 0).run Tryz.prog w=.ok (.int .i64 n) w:=by kernel_rfl
theorem qev (p:Addr)(w:World):
  CallsD Tryz.prog 331 #[.pointer (some p)] .returning w fun e u' w'=>e=.returned (.tuple #[])∧u'=.returning∧w'=w:=by
 refine callsD_of_wpS Tryz.func331 rfl fun c₀ cs hu=>?_;apply wpS_seq;apply wpS_region;simp[wpOpsS,go_sem,recoverD,hu,Tryz.ntmps331,Exit.thenS];apply wpS_seq;apply wpS_region;simp[wpOpsS,go_sem,recoverD,hu,Tryz.ntmps331,Exit.thenS];refine wpS_cond (t:=false) (by simp[Act.eval,Array.replicate]) ?_;simp only[Bool.false_eq_true,if_false];refine wpS_of_wp (wp_skip ?_);cases c₀;simp_all[bodyPostS,results,Tryz.results331]
theorem qnx (p:Addr)(x:Value)(n:Int)(w:World)(hc:w.cell? p=some x)(hz:w.frozen? p=false):
  CallsD Tryz.prog 331 #[.pointer (some p)] (.panicking (pan (badV n))) w fun e u' w'=>
   e=.returned (.tuple #[])∧u'=.panicking [{v:=badV n,recovered:=true}]∧w'=w.setCell p (.int .i64 n):=by
 refine callsD_of_wpS Tryz.func331 rfl fun c₀ cs hu=>?_;apply wpS_seq;apply wpS_region;simp[wpOpsS,go_sem,recoverD,hu,Tryz.ntmps331,Exit.thenS];apply wpS_seq;apply wpS_region;simp[wpOpsS,go_sem,recoverD,hu,Tryz.ntmps331,Exit.thenS];refine wpS_cond (t:=true) (by simp[Act.eval,Array.replicate]) ?_;simp only[if_true];apply wpS_region;simp[wpOpsS,go_sem,qup,qwu,hc,hz,bodyPostS,results,Tryz.results331]
theorem qmg (n:Int)(h:¬n=0)(w:World):Calls Tryz.prog 332 #[.int .i64 n] w fun e w'=>e=.panicked (pan (badV n))∧w'=w:=by
 go_enter Tryz.func332,Tryz.ntmps332
 go_wp2
 exact⟨rfl,rfl,rfl⟩
theorem qnw (g:FuncId)(xs:Array Value)(w:World)(R:Ending→World→Prop)(hen:zcz Tryz.prog g)(S:Int→World→Prop)
  (hdo:Calls Tryz.prog g xs (w.alloc (.cells #[.int .i64 0] 35)) fun e w'=>∃n,S n w'∧(∃x,w'.cell? ⟨w.heap.size,0,none⟩=some x)∧w'.frozen? ⟨w.heap.size,0,none⟩=false∧((n=0∧∃v,e=.returned v)∨e=.panicked (pan (badV n))))
  (hR:∀n w',S n w'→R (.returned (.int .i64 n)) (w'.setCell ⟨w.heap.size,0,none⟩ (.int .i64 n))):Calls Tryz.prog 260 #[.func (.func g) #[] xs] w R:=by
 have hmf:∀(fn:Fn) (first cap:Array Value) (w:World),(Instr.makeFunc fn first cap).run Tryz.prog w=.ok (.func fn first cap) w:=fun _ _ _ _=>rfl
 go_enter_defers Tryz.func260,Tryz.ntmps260
 refine wp_seq (wp_region ?_);simp[wpOps,go_sem,Oper.wp,Exit.then];refine .inl ?_;refine wp_seq (wp_region ?_);simp[wpOps,go_sem,Oper.wp,Exit.then,hmf];refine .inl (.inl ?_);refine wp_seq (wp_region ?_);simp[wpOps,go_sem,Oper.wp,Exit.then,invoke];refine .inl (.inl ?_);rw[hen];simp only[Oper.upon];refine hdo.mono fun e w' ⟨n,h1,⟨x,h2⟩,h3,h4⟩=>?_;rcases h4 with⟨rfl,v,rfl⟩|rfl
 ·refine wp_seq (wp_region ?_);simp[wpOps,go_sem,Oper.wp,Exit.then,h2,h3];refine .inl (wp_ret ?_);refine leaves_cons (f:=331) (args:=#[.pointer (some ⟨w.heap.size,0,none⟩)]) (by simp) (by simp[go_sem]) ?_;refine(qev ⟨w.heap.size,0,none⟩ _).mono ?_;rintro e u' w'' ⟨rfl,rfl,rfl⟩;simp[Leaves,settle,results,Tryz.results260,go_sem,h2];exact hR 0 w' h1
 ·refine leaves_cons (f:=331) (args:=#[.pointer (some ⟨w.heap.size,0,none⟩)]) (by simp) (by simp[go_sem]) ?_;refine(qnx ⟨w.heap.size,0,none⟩ x n _ h2 h3).mono ?_;rintro e u' w'' ⟨rfl,rfl,rfl⟩;simp[Leaves,settle,results,Tryz.results260,go_sem,h2];exact hR n w' h1
theorem qcl {fin:Value→Ending}{g:FuncId}{args:List AV}{mr m m':List (Nat×Blk)}{res:AV}(n:Int)(hen:zcz Tryz.prog g)(hct:CtF (fun _ _=>True) fin Tryz.prog g args mr m res m')(hf:∀v,(n=0∧fin v=.returned v)∨fin v=.panicked (pan (badV n))):
  Ct Tryz.prog 260 [.fn (.func g) [] args] mr m (int n) m':=by
 intro σ I w vs hib hl hv hrm hfree;obtain⟨v,rfl⟩:∃v,vs=[v]:=by
  match vs,hl with
  |[v],_=>exact⟨v,rfl⟩
 have h0:=hv 0 _ v rfl rfl;cases h0 with
 | @fn _ _ _ xs ys hx hy h1 h2=>
   obtain rfl:xs=[]:=List.eq_nil_of_length_eq_zero (by simpa using hx);refine qnw g ys.toArray w _ hen (fun k w'=>k=n∧∃σ' I',Post σ I (w.alloc (.cells #[.int .i64 0] 35)) (zac (mr++m)) 64 σ' I' w' (zac (mr++m'))) ?_ ?_
   ·have hold:∀k,k<w.heap.size→(w.alloc (.cells #[.int .i64 0] 35)).heap[k]? =w.heap[k]? :=fun k hk=>heap_alloc_old w _ hk;refine(hct σ I _ ys trivial (fun k hk=>by have:=hib k hk;simp;omega) hy (fun i c x p1 p2=>(h2 i c x p1 p2).mono (fun k hk=>hold k (hib k hk)) (fun _ h=>h) (fun _ _ h=>h)) (hrm.moved (by simp) fun k hk=>hold k ?_) hfree).mono fun e w' ⟨v,σ',I',he,hp,_⟩=>?_
    ·rcases hk with hk|⟨b,q,y,q1,q2,q3⟩
     ·exact hib k hk
     ·obtain⟨y',q4,_,q5⟩:=hrm.blk b q q1;rw[q2]at q4;cases q4;exact(q5 k q3).1
    ·obtain⟨_,p2,p3⟩:=zwc (v:=undef) hrm hib hp;exact⟨n,⟨rfl,σ',I',hp⟩,⟨_,p2⟩,p3,(hf v).imp (fun⟨a,b⟩=>⟨a,v,he.trans b⟩) he.trans⟩
   ·rintro k w' ⟨rfl,σ',I',hp⟩;exact⟨_,σ',I',rfl,(zwc hrm hib hp).1,.d (.v _)⟩
theorem zx9 {g:FuncId}{args:List AV}{mr m m':List (Nat×Blk)}{res:AV}(hen:zcz Tryz.prog g)(hct:Ct Tryz.prog g args mr m res m'):Ct Tryz.prog 260 [.fn (.func g) [] args] mr m (int 0) m':=qcl 0 hen hct.F fun _=>.inl ⟨rfl,rfl⟩
theorem zx8 {g:FuncId}{args:List AV}{mr m m':List (Nat×Blk)}{n:Int}(hen:zcz Tryz.prog g)(hct:CtX Tryz.prog g args mr m (badV n) m'):Ct Tryz.prog 260 [.fn (.func g) [] args] mr m (int n) m':=qcl n hen hct fun _=>.inr rfl
theorem zzh (n:Int)(h:¬n=0):CtX Tryz.prog 332 [int n] [] [] (badV n) []:=by
 intro σ I w vs _ hib hl hv hrm hfree;obtain⟨v,rfl⟩:∃v,vs=[v]:=by
  match vs,hl with
  |[v],_=>exact⟨v,rfl⟩
 have h0:=hv 0 _ v rfl rfl;cases h0 with
 |d h0=>cases h0 with
  |v=>
   refine(qmg n h w).mono fun e w' ⟨he,hw⟩=>?_;subst hw;exact⟨undef,σ,I,he,⟨rfl,rfl,SameOut.refl _,Nat.le_refl _,fun _ _ h=>h,fun b h1 h2=>absurd h1 h2,fun _ h=>h,hib,fun _ h=>.inl h,fun _ _ _=>rfl,hrm,fun b k h=>by simp[zac]at h,fun _ h=>.inl h⟩,.any _⟩
attribute [simp] Tryz.ntmps332 Tryz.results332
theorem zmw :Ct Tryz.prog 332 [int 0] [] [] (.tup []) []:=by
 refine Ct.B Tryz.func332 mixed 9999 400 ?_;simp;first|exact fin0 (by simp) rfl|exact zaa (by simp)
attribute [simp] Tryz.ntmps333 Tryz.results333
theorem zvc (n:Int):Ct Tryz.prog 333 [bool true,int n] [] [] (int 0) []:=by
 refine Ct.B Tryz.func333 mixed 9999 400 ?_;simp;first|exact fin0 (by simp) rfl|exact zaa (by simp)
theorem qfj (n:Int):Ct Tryz.prog 333 [bool false,int n] [] [] (int n) []:=by
 refine Ct.B Tryz.func333 mixed 9999 400 ?_;simp;first|exact fin0 (by simp) rfl|exact zaa (by simp)
attribute [simp] Tryz.ntmps172 Tryz.results172
theorem zsr (n:Int):Ct Tryz.prog 172 [int n] [] [] (int (capN n)) []:=by
 refine Ct.B Tryz.func172 mixed 9999 400 ?_;simp;have e:=qcm n;first|exact fin0 (by simp[e]) rfl|exact zaa (by simp[e])
attribute [simp] Tryz.ntmps110 Tryz.results110
theorem qo0 (n:Int):Ct Tryz.prog 110 [int n] [] [] (st (zdv (newC n))) []:=by
 refine Ct.B Tryz.func110 mixed 9999 400 ?_;simp;refine CI.p (zsr n) Tryz.call172 9999 ?_;simp;first|exact fin0 (by simp[newC]) rfl|exact zaa (by simp[newC])
attribute [simp] Tryz.ntmps262 Tryz.results262
theorem qid (c:Cache)(l:List Res)(h:zdq c.cap l=0):Ct Tryz.prog 262 [st (zdv c),lst (l.map resC)] [] [] (.tup []) []:=by
 refine Ct.B Tryz.func262 mixed 9999 400 ?_;simp;obtain⟨h1,h2,h3⟩:=must_iff.1 h;have hl:=tab_len h1;refine CI.p (zmh l) Tryz.call88 9999 ?_;simp;refine CI.p zmw Tryz.call332 9999 ?_ (ha:=by simp[h1]);simp[h1];refine CI.p (zvc 8) Tryz.call333 9999 ?_ (ha:=by simp[h2]);simp[h2];refine CI.p zmw Tryz.call332 9999 ?_;simp;refine CI.p (zol l (zcc h1) (by omega)) Tryz.call89 9999 ?_;simp;refine CI.p zmw Tryz.call332 9999 ?_ (ha:=by simp[h3]);simp[h3];first|exact fin0 (by simp) rfl|exact zaa (by simp)
theorem qml (c:Cache)(l:List Res)(h:¬tabE l=0):CtX Tryz.prog 262 [st (zdv c),lst (l.map resC)] [] [] (badV (tabE l)) []:=by
 refine CtX.B Tryz.func262 mixed 9999 400 ?_;simp;refine CI.p (zmh l) Tryz.call88 9999 ?_;simp;refine CI.up [] (zzh (tabE l) h) Tryz.call332 ?_;refine⟨rfl,?_⟩;constructor<;>simp[nmF,inB]
theorem qmo (c:Cache)(l:List Res)(h1:tabE l=0)(h2:¬(l.length:Int)≤c.cap):CtX Tryz.prog 262 [st (zdv c),lst (l.map resC)] [] [] (badV 8) []:=by
 refine CtX.B Tryz.func262 mixed 9999 400 ?_;simp;have hl:=tab_len h1;refine CI.p (zmh l) Tryz.call88 9999 ?_;simp;refine CI.p zmw Tryz.call332 9999 ?_ (ha:=by simp[h1]);simp[h1];refine CI.p (qfj 8) Tryz.call333 9999 ?_ (ha:=by simp[h2]);simp[h2];refine CI.up [] (zzh 8 (by decide)) Tryz.call332 ?_;refine⟨rfl,?_⟩;constructor<;>simp[nmF,inB]
theorem qmm (c:Cache)(l:List Res)(h1:tabE l=0)(h2:(l.length:Int)≤c.cap)(h3:¬zbj l=0):CtX Tryz.prog 262 [st (zdv c),lst (l.map resC)] [] [] (badV (zbj l)) []:=by
 refine CtX.B Tryz.func262 mixed 9999 400 ?_;simp;have hl:=tab_len h1;refine CI.p (zmh l) Tryz.call88 9999 ?_;simp;refine CI.p zmw Tryz.call332 9999 ?_ (ha:=by simp[h1]);simp[h1];refine CI.p (zvc 8) Tryz.call333 9999 ?_ (ha:=by simp[h2]);simp[h2];refine CI.p zmw Tryz.call332 9999 ?_;simp;refine CI.p (zol l (zcc h1) (by omega)) Tryz.call89 9999 ?_;simp;refine CI.up [] (zzh (zbj l) h3) Tryz.call332 ?_;refine⟨rfl,?_⟩;constructor<;>simp[nmF,inB]
theorem qic (c:Cache)(l:List Res)(h:¬zdq c.cap l=0):CtX Tryz.prog 262 [st (zdv c),lst (l.map resC)] [] [] (badV (zdq c.cap l)) []:=by
 by_cases h1:tabE l=0
 ·by_cases h2:(l.length:Int)≤c.cap
  ·have e:zdq c.cap l=zbj l:=by simp[zdq,h1,show¬c.cap<l.length by omega]
   rw[e]at h⊢;exact qmm c l h1 h2 h
  ·have e:zdq c.cap l=8:=by simp[zdq,h1,show c.cap<l.length by omega]
   rw[e];exact qmo c l h1 h2
 ·have e:zdq c.cap l=tabE l:=by simp[zdq,h1]
  rw[e];exact qml c l h1
abbrev qcn (c:Cache):Nat×Blk:=(0,.cells ((zdv c).map .d) 53)
attribute [simp] Tryz.ntmps261 Tryz.results261
theorem qgv (c:Cache)(h:zdq c.cap c.l=0):Ct Tryz.prog 261 [.ptr 0 0] [qcn c] [] (.tup []) []:=by
 refine Ct.B Tryz.func261 mixed 9999 400 ?_;simp;refine CI.p (qid c c.l h) Tryz.call262 9999 ?_;simp;first| (refine⟨[],?_,?_,?_,?_,?_,?_,?_⟩<;>simp[nmF,inB];done)| (refine⟨by decide+kernel,?_⟩;refine⟨[],?_,?_,?_,?_,?_,?_,?_⟩<;>simp[nmF,inB])
theorem qgu (c:Cache)(h:¬zdq c.cap c.l=0):CtX Tryz.prog 261 [.ptr 0 0] [qcn c] [] (badV (zdq c.cap c.l)) []:=by
 refine CtX.B Tryz.func261 mixed 9999 400 ?_;simp;refine CI.up [] (qic c c.l h) Tryz.call262 ?_;refine⟨rfl,?_⟩;constructor<;>simp[nmF,inB]
theorem qll (c:Cache):Ct Tryz.prog 260 [.fn (.func 261) [] [.ptr 0 0]] [qcn c] [] (int (zdq c.cap c.l)) []:=by
 by_cases h:zdq c.cap c.l=0
 ·rw[h];exact zx9 Tryz.call261 (qgv c h)
 ·exact zx8 Tryz.call261 (qgu c h)
attribute [simp] Tryz.ntmps199 Tryz.results199
theorem qgt (c:Cache):Ct Tryz.prog 199 [st (zdv c)] [] [] (bool (zkc c)) []:=by
 refine Ct.B Tryz.func199 mixed 9999 400 ?_;simp;refine CI.p (zsr c.cap) Tryz.call172 9999 ?_;simp;refine sGI (fun h1=>?_) (fun h1=>?_)<;>simp only[h1]<;>simp<;>(try simp only[nT,nF,dT,dF]at h1)
 ·refine CI.cc [64] (qll c) Tryz.call260 9999 ?_;simp;refine⟨by decide+kernel,?_⟩;have e:zkc c=decide (zdq c.cap c.l=0):=by unfold zkc;rw[decide_eq_true h1,Bool.true_and]
  first|exact fin0 (by simp[e]) rfl|exact zaa (by simp[e])
 ·refine⟨by decide+kernel,?_⟩;have e:zkc c=false:=by unfold zkc;rw[decide_eq_false h1,Bool.false_and]
  first|exact fin0 (by simp[e]) rfl|exact zaa (by simp[e])
attribute [simp] Tryz.ntmps263 Tryz.results263
theorem qax (c:Cache):Ct Tryz.prog 263 [st (zdv c)] [] [] (st (zdv (zed c))) []:=by
 refine Ct.B Tryz.func263 mixed 9999 400 ?_;simp;refine CI.p (qgt c) Tryz.call199 9999 ?_;simp;refine sBI (fun h1=>?_) (fun h1=>?_)<;>simp only[h1]<;>simp<;>(try simp only[nT,nF,dT,dF]at h1)
 ·refine CI.p (qo0 c.cap) Tryz.call110 9999 ?_;simp;first|exact fin0 (by simp[zed,h1]) rfl|exact zaa (by simp[zed,h1])
 ·first|exact fin0 (by simp[zed,h1]) rfl|exact zaa (by simp[zed,h1])
theorem zrr (c:Cache):AscR (zed c).l∧(zed c).l.length≤64:=by
 have h:=(saneC_iff.1 (zka c)).2.1;exact⟨zcc h,tab_len h⟩
attribute [simp] Tryz.ntmps200 Tryz.results200
theorem qa1 (c:Cache):Ct Tryz.prog 200 [st (zdv c)] [] [] (lst ((zfi c).map resC)) []:=by
 refine Ct.B Tryz.func200 mixed 9999 400 ?_;simp;refine CI.p (qax c) Tryz.call263 9999 ?_;simp;obtain⟨h1,h2⟩:=zrr c;refine CI.p (ztn (zed c).l h1 (by omega)) Tryz.call27 9999 ?_;simp;first|exact fin0 (by simp[zfi]) rfl|exact zaa (by simp[zfi])
abbrev appR (c:Cache)(adds:List Res)(gone:List Key):List (Nat×Blk):=[qcn c,(1,.cells [lst (adds.map resC)] 43),(2,.cells [lst (gone.map keyC)] 39)]
attribute [simp] Tryz.ntmps361 Tryz.results361
theorem qtz (c:Cache)(adds:List Res)(gone:List Key)(hl:c.l.length+adds.length≤1000000)(hg:gone.length≤9223372036854775807)(h:zdq c.cap (zak c.l adds gone)=0):Ct Tryz.prog 361 [.ptr 0 0,.ptr 1 0,.ptr 2 0,.ptr 3 0] (appR c adds gone) [(3,.cells ((zdv c).map .d) 53)] (.tup []) [(3,.cells ((zdv ⟨c.cap,zak c.l adds gone⟩).map .d) 53)]:=by
 refine Ct.B Tryz.func361 mixed 9999 400 ?_;simp;refine CI.p (zts c.l adds gone hl hg) Tryz.call222 9999 ?_;simp;refine CI.p (qid c (zak c.l adds gone) h) Tryz.call262 9999 ?_;simp;first| (refine⟨[],?_,?_,?_,?_,?_,?_,?_⟩<;>simp[nmF,inB];done)| (refine⟨by decide+kernel,?_⟩;refine⟨[],?_,?_,?_,?_,?_,?_,?_⟩<;>simp[nmF,inB])
theorem qty (c:Cache)(adds:List Res)(gone:List Key)(hl:c.l.length+adds.length≤1000000)(hg:gone.length≤9223372036854775807)(h:¬zdq c.cap (zak c.l adds gone)=0):CtX Tryz.prog 361 [.ptr 0 0,.ptr 1 0,.ptr 2 0,.ptr 3 0] (appR c adds gone) [(3,.cells ((zdv c).map .d) 53)] (badV (zdq c.cap (zak c.l adds gone))) [(3,.cells ((zdv ⟨c.cap,zak c.l adds gone⟩).map .d) 53)]:=by
 refine CtX.B Tryz.func361 mixed 9999 400 ?_;simp;refine CI.p (zts c.l adds gone hl hg) Tryz.call222 9999 ?_;simp;refine CI.up [] (qic c (zak c.l adds gone) h) Tryz.call262 ?_;refine⟨rfl,?_⟩;constructor<;>simp[nmF,inB]
theorem qxj (c:Cache)(adds:List Res)(gone:List Key)(hl:c.l.length+adds.length≤1000000)(hg:gone.length≤9223372036854775807):
  Ct Tryz.prog 260 [.fn (.func 361) [] [.ptr 0 0,.ptr 1 0,.ptr 2 0,.ptr 3 0]] (appR c adds gone) [(3,.cells ((zdv c).map .d) 53)] (int (zdq c.cap (zak c.l adds gone))) [(3,.cells ((zdv ⟨c.cap,zak c.l adds gone⟩).map .d) 53)]:=by
 by_cases h:zdq c.cap (zak c.l adds gone)=0
 ·rw[h];exact zx9 Tryz.call361 (qtz c adds gone hl hg h)
 ·exact zx8 Tryz.call361 (qty c adds gone hl hg h)
attribute [simp] Tryz.ntmps298 Tryz.results298
theorem qtx (c:Cache)(adds:List Res)(gone:List Key)(hl:adds.length≤1000)(hg:gone.length≤9223372036854775807):Ct Tryz.prog 298 [st (zdv c),lst (adds.map resC),lst (gone.map keyC)] [] [] (.tup [st (zdv (zgd c adds gone).1),int (zgd c adds gone).2]) []:=by
 refine Ct.B Tryz.func298 mixed 9999 400 ?_;simp;refine CI.p (qax c) Tryz.call263 9999 ?_;simp;have h1:=(zrr c).2;have hh:zgd c adds gone=zj6 (zed c) adds gone:=rfl;rw[hh];clear hh;generalize zed c=q at h1⊢;refine CI.cc [64,128,192,640] (qxj q adds gone (by omega) hg) Tryz.call260 9999 ?_ (ha:=by simp[appR]) (hk:=by simp[appR]);simp[appR];refine sBI (fun h2=>?_) (fun h2=>?_)<;>simp only[h2]<;>simp<;>(try simp only[nT,nF,dT,dF]at h2)
 ·first|exact fin0 (by simp[zj6,h2]) rfl|exact zaa (by simp[zj6,h2])
 ·first|exact fin0 (by simp[zj6,h2]) rfl|exact zaa (by simp[zj6,h2])
end Go.Proofs.YtjoaclgkjhncjaaGreatDoor
namespace Go.Proofs.YtjoaclgkjhncjaaGreatDoor
open Go.AI Go.G
set_option maxRecDepth 20000
attribute [simp] Tryz.ntmps301 Tryz.results301
theorem zso (x:Snap)(l:List Snap)(hl:l.length≤1000000):Ct Tryz.prog 301 [lst ((x::l).map zdd)] [] [] (.own 64) [(64,.grow 3 ((x::l).map zdd) 78)]:=by
 refine Ct.B Tryz.func301 mixed 9999 400 ?_;simp;refine⟨by omega,?_⟩;first| (refine⟨[(64,384)],?_,?_,?_,?_,?_,?_,?_⟩<;>simp[nmF,inB];done)| (refine⟨by decide+kernel,?_⟩;refine⟨[(64,384)],?_,?_,?_,?_,?_,?_,?_⟩<;>simp[nmF,inB])
attribute [simp] Tryz.ntmps362 Tryz.results362
attribute [simp] Tryz.ntmps300 Tryz.results300
theorem zxi (l:List Snap)(kf:D)(p:Snap→Bool)(hf:∀x∈l,FnOk Tryz.prog (.d kf) [st (zdd x)] (bool (p x)))(hl:l.length≤9223372036854775807):Ct Tryz.prog 362 [.own 0,.d kf] [(0,.grow 3 (l.map zdd) 78)] [] (int (idxF p l)) []:=by
 refine Ct.B Tryz.func362 mixed 9999 400 ?_;simp;refine LoopI.inv mixed rfl (ι:={k:Nat//k≤(l).length∧(l.take k).all (fun x=>!p x)=true}) (fun k=>[(0,.own 0),(1,.d kf),(7,int l.length),(8,int k.1)]) (fun k=>[(0,.grow 3 (l.map zdd) 78)]) 64 (fun k=>(l).length-k.1) ⟨0,by omega,by simp⟩ [] (by constructor<;>simp) ?_;rintro⟨k,hk1,hi⟩ B hB;refine CI.run 9999 400 rfl ?_;simp;refine sBI (fun h=>?_) (fun h=>?_)
 ·have hk:k<(l).length:=by simpa using h
  obtain⟨r,hx,hr,hm,ht,hd⟩:=inL hk;have hw:=wr (k:=k) (by omega);simp only[h];simp[hr,hw,hk];refine CI.ff (hf r hm) rfl rfl rfl 9999 ?_ (ha:=by simp[hx]);simp[hx];refine sBI (fun hp=>?_) (fun hp=>?_)<;>simp only[hp]<;>simp
  ·have e:=zc2 hi hr hp;first| (refine⟨[],?_,?_,?_,?_,?_,?_,?_⟩<;>simp[nmF,inB,e];done)| (refine⟨by decide+kernel,?_⟩;refine⟨[],?_,?_,?_,?_,?_,?_,?_⟩<;>simp[nmF,inB,e])
  ·refine hB _ ⟨k+1,by omega,by simp[ht,hi,hp]⟩ [] ?_ (by simp;omega);constructor<;>simp[hw,ht,hp]
 ·have hkl:k=(l).length:=by simp at h;omega
  subst hkl;simp only[h];simp[List.take_length,List.drop_length];rw[List.take_length]at hi;have e:idxF p l= -1:=zbi (fun x hx=>by have:=List.all_eq_true.1 hi x hx;simpa using this);first| (refine⟨[],?_,?_,?_,?_,?_,?_,?_⟩<;>simp[nmF,inB,e];done)| (refine⟨by decide+kernel,?_⟩;refine⟨[],?_,?_,?_,?_,?_,?_,?_⟩<;>simp[nmF,inB,e])
theorem qjy (l:List Snap)(kf:D)(p:Snap→Bool)(hf:∀x∈l,FnOk Tryz.prog (.d kf) [st (zdd x)] (bool (p x)))(hl:l.length≤1000000)(h1:idxF p l= -1):Ct Tryz.prog 300 [.own 0,.d kf] [] [(0,.grow 3 (l.map zdd) 78)] (.own 0) [(0,.grow 3 (l.map zdd) 78)]:=by
 refine Ct.B Tryz.func300 mixed 9999 400 ?_;simp;refine CI.cc [0] (zxi l kf p hf (by omega)) Tryz.call362 9999 ?_;simp;simp[h1];first| (refine⟨[],?_,?_,?_,?_,?_,?_,?_⟩<;>simp[nmF,inB];done)| (refine⟨by decide+kernel,?_⟩;refine⟨[],?_,?_,?_,?_,?_,?_,?_⟩<;>simp[nmF,inB])
theorem qjx (l:List Snap)(kf:D)(p:Snap→Bool)(hf:∀x∈l,FnOk Tryz.prog (.d kf) [st (zdd x)] (bool (p x)))(hl:l.length≤1000000)(i:Nat)(x:Snap)(h1:idxF p l=i)(h2:i<l.length):Ct Tryz.prog 300 [.own 0,.d kf] [] [(0,.grow 3 (l.map zdd) 78)] (.sl 0 3 0 (l.filter fun x=>!p x).length) [(0,.grow 3 ((l.filter fun x=>!p x).map zdd++List.replicate (l.length-(l.filter fun x=>!p x).length) [iD 0,iD 0,.v (.slice none 0 0)]) 78)]:=by
 refine Ct.B Tryz.func300 mixed 9999 400 ?_;simp;refine CI.cc [0] (zxi l kf p hf (by omega)) Tryz.call362 9999 ?_;simp;have hne:¬(i:Int)= -1:=by omega
 have hwi:IntKind.wrap .i64 ((i:Int)+1)=i+1:=zab (by omega) (by omega);simp[h1,hne,hwi];have d0:=DelSt.start (x:=x) h1 h2;refine LoopI.inv mixed rfl (ι:={q:Nat×Nat×List Snap//DelSt p l q.1 q.2.1 q.2.2}) (fun k=>[(0,.own 0),(1,.d kf),(5,int k.1.2.1),(6,int k.1.1)]) (fun k=>[(0,.grow 3 (k.1.2.2.map zdd) 78)]) 64 (fun k=>l.length-k.1.1) ⟨(i+1,i,l),d0⟩ [] (by constructor<;>simp) ?_;rintro⟨⟨j,i,cur⟩,hd⟩ B hB;clear h1 h2 hne hwi d0;have hlen:=hd.len;have hlt:=hd.lt;have hle:=hd.le;simp only at hlen hlt hle;have w1:IntKind.wrap .i64 ((j:Int)+1)=j+1:=zab (by omega) (by omega);have w2:IntKind.wrap .i64 ((i:Int)+1)=i+1:=zab (by omega) (by omega);refine CI.run 9999 400 rfl ?_;simp[hlen];refine sBI (fun h=>?_) (fun h=>?_)<;>simp only[h]<;>simp<;>(try simp only[nT,nF,dT,dF]at h)
 ·have hj:j<l.length:=by omega
  have hv:l[j]? =some l[j]:=List.getElem?_eq_getElem hj;have hm:l[j]∈l:=List.getElem_mem hj;generalize l[j]=v at hv hm;have hg:=hd.get hv;have hjc:j<cur.length:=by omega
  have hgx:cur[j]=v:=by rw[List.getElem?_eq_getElem hjc]at hg;exact Option.some.inj hg
  simp[hjc,hgx];refine CI.ff (hf v hm) rfl rfl rfl 9999 ?_;simp;have hic:i<cur.length:=by omega
  refine sBI (fun h2=>?_) (fun h2=>?_)<;>simp only[h2]<;>simp[hic]
  ·have hp:p v=false:=by simpa using h2
   refine hB _ ⟨(j+1,i+1,cur.set i v),hd.keep hv hp⟩ [] ?_ (by simp;omega);constructor<;>simp[w1,w2,List.map_set]
  ·have hp:p v=true:=by simpa using h2
   refine hB _ ⟨(j+1,i,cur),hd.del hv hp⟩ [] ?_ (by simp;omega);constructor<;>simp[w1]
 ·have hj:j=l.length:=by omega
  subst hj;have e:cur.take i=l.filter (fun x=>!p x):=hd.done;simp[hlen];have e2:List.take i (List.map zdd cur)=List.map zdd (List.filter (fun x=>!p x) l):=by rw[←List.map_take,e]
  have e3:(List.filter (fun x=>!p x) l).length=i:=by rw[←e,List.length_take];omega
  refine⟨by omega,by omega,by omega,?_⟩;have e4:List.drop (i+(l.length-i)) (List.map zdd cur)=[]:=by rw[List.drop_eq_nil_iff];simp;omega
  rw[e2,e3,e4];first| (refine⟨[],?_,?_,?_,?_,?_,?_,?_⟩<;>simp[nmF,inB];done)| (refine⟨by decide+kernel,?_⟩;refine⟨[],?_,?_,?_,?_,?_,?_,?_⟩<;>simp[nmF,inB])
theorem qjw (l:List Snap)(kf:D)(p:Snap→Bool)(hf:∀x∈l,FnOk Tryz.prog (.d kf) [st (zdd x)] (bool (p x)))(hl:l.length≤1000000):Ct Tryz.prog 300 [.own 0,.d kf] [] [(0,.grow 3 (l.map zdd) 78)] (.own 64) [(64,.grow 3 ((l.filter fun x=>!p x).map zdd) 78)]:=by
 rcases zjm p l with⟨h1,h2⟩|⟨i,x,h1,h2,h3,h4⟩
 ·have e:(l.filter fun x=>!p x)=l:=by
   rw[List.filter_eq_self];intro a ha;have:=List.find?_eq_none.1 h2 a ha;simpa using this
  have:=Ct.trunc (Or.inl ⟨rfl,rfl⟩) (Nat.le_refl _) (qjy l kf p hf hl h1);rw[List.take_length]at this;rw[e];exact this
 ·have:=Ct.trunc (Or.inr rfl) (by simp) (qjx l kf p hf hl i x h1 h2);rw[List.take_left' (by simp)]at this;exact this
theorem qac :Ct Tryz.prog 301 [lst []] [] [] (.own 64) [(64,.grow 3 [] 78)]:=by
 refine Ct.B Tryz.func301 mixed 2 400 ?_;simp;refine⟨?_,?_⟩
 ·refine CI.cutTo mixed (ι:=Unit) (fun _=>[(2,.d (.v (.slice none 0 0)))]) (fun _=>[]) 65 rfl (fun B hB=>?_) (fun _=>?_)
  ·refine CI.run 9999 400 rfl ?_;simp;refine hB _ () [] ?_;constructor<;>simp
  ·refine CI.nilOwn 2 3 78 rfl rfl ?_;refine CI.run 9999 400 rfl ?_;simp;first| (refine⟨[(64,65)],?_,?_,?_,?_,?_,?_,?_⟩<;>simp[nmF,inB];done)| (refine⟨by decide+kernel,?_⟩;refine⟨[(64,65)],?_,?_,?_,?_,?_,?_,?_⟩<;>simp[nmF,inB])
 ·skip
  first| (refine⟨[(64,384)],?_,?_,?_,?_,?_,?_,?_⟩<;>simp[nmF,inB];done)| (refine⟨by decide+kernel,?_⟩;refine⟨[(64,384)],?_,?_,?_,?_,?_,?_,?_⟩<;>simp[nmF,inB])
theorem qaa (l:List Snap)(hl:l.length≤1000000):Ct Tryz.prog 301 [lst (l.map zdd)] [] [] (.own 64) [(64,.grow 3 (l.map zdd) 78)]:=by
 cases l with
 |nil=>exact qac
 |cons x l=>exact zso x l (by simp at hl;omega)
attribute [simp] Tryz.ntmps145 Tryz.results145
theorem zim (n a b:Int):Ct Tryz.prog 145 [int n,int a,int b] [] [] (bool (decide (a≤n)&&decide (n≤b))) []:=by
 refine Ct.B Tryz.func145 mixed 9999 400 ?_;simp
 repeat' first
  | (refine sGI (fun h=>?_) (fun h=>?_)<;>simp only[h]<;>simp[h])
  | (refine sBI (fun h=>?_) (fun h=>?_)<;>simp only[h]<;>simp[h])
  | (refine⟨(show zba _ _ from by decide+kernel),?_⟩)
  |fail
 all_goals exact fin0 (by simp[*]) rfl
attribute [simp] Tryz.ntmps85 Tryz.results85
theorem zuc (p:Pins)(h:p.snaps.length≤9223372036854775807):Ct Tryz.prog 85 [st (ziw p)] [] [] (int ((p.snaps.length:Int)-1)) []:=by
 refine Ct.B Tryz.func85 mixed 9999 400 ?_;simp;have hw:IntKind.wrap .i64 ((p.snaps.length:Int)-1)=p.snaps.length-1:=zab (by omega) (by omega);first|exact fin0 (by simp[hw]) rfl|exact zaa (by simp[hw])
attribute [simp] Tryz.ntmps302 Tryz.results302
theorem qi2 (s:Snap):Ct Tryz.prog 302 [st (zdd s)] [] [] (bool (decide (s.pins=0))) []:=by
 refine Ct.B Tryz.func302 mixed 9999 400 ?_;simp;first|exact fin0 (by simp) rfl|exact zaa (by simp)
attribute [simp] Tryz.ntmps94 Tryz.results94
theorem qgq (p:Pins)(hl:p.snaps.length≤1000000)(hn:p.next≤2147483648):Ct Tryz.prog 94 [st (ziw p)] [] [] (bool (zfc p)) []:=by
 refine Ct.B Tryz.func94 mixed 9999 400 ?_;simp;refine LoopI.inv mixed rfl (ι:={k:Nat//k≤(p.snaps).length∧(zbb p.next 0 p.snaps=zbb p.next (ahP (p.snaps.take k)) (p.snaps.drop k)∧0≤ahP (p.snaps.take k)∧ahP (p.snaps.take k)≤2147483648)}) (fun k=>[(1,.ptr 64 0),(3,int (ahP (p.snaps.take k.1))),(8,lst (p.snaps.map zdd)),(9,int p.snaps.length),(10,int k.1)]) (fun k=>[(64,.cells ((ziw p).map .d) 58)]) 65 (fun k=>(p.snaps).length-k.1) ⟨0,by omega,by simp⟩ [] (by constructor<;>simp) ?_;rintro⟨k,hk1,hi⟩ B hB;refine CI.run 9999 400 rfl ?_;simp;refine sBI (fun h=>?_) (fun h=>?_)
 ·have hk:k<(p.snaps).length:=by simpa using h
  obtain⟨s,hx,hr,hm,ht,hd⟩:=inL hk;have hw:=wr (k:=k) (by omega);simp only[h];simp[hr,hw];obtain⟨i1,i2,i3⟩:=hi;have wA:IntKind.wrap .i64 (ahP (p.snaps.take k)+1)=ahP (p.snaps.take k)+1:=zab (by omega) (by omega);refine CI.p (zuc p (by omega)) Tryz.call85 9999 ?_;simp;have hsl:zfc p=(zbb p.next (ahP (p.snaps.take k)) (s::p.snaps.drop (k+1))&&rngB p.next 2147483647&&decide (p.snaps.length≤1000)):=by rw[zfc,i1,hd]
  have hlast:p.snaps.drop (k+1)=[]↔(k:Int)=p.snaps.length-1:=by rw[List.drop_eq_nil_iff];omega
  refine sBI (fun h1=>?_) (fun h1=>?_)<;>simp only[h1]<;>simp
  ·have h1':p.snaps.drop (k+1)=[]:=hlast.2 (by simpa using h1);simp[wA];refine CI.p (zim s.id (ahP (p.snaps.take k)+1) p.next) Tryz.call145 9999 ?_;simp;refine sGI (fun h2=>?_) (fun h2=>?_)<;>simp only[h2]<;>simp
   ·have h2':¬(ahP (p.snaps.take k)+1≤s.id∧s.id≤p.next):=by simp at h2;omega
    have e:zfc p=false:=by rw[hsl];simp[zbb,h1'];omega
    first|exact fin0 (by simp[e]) rfl|exact zaa (by simp[e])
   ·skip
    refine CI.p (zim s.pins 0 10000) Tryz.call145 9999 ?_;simp;refine sBI (fun h3=>?_) (fun h3=>?_)<;>simp only[h3]<;>simp
    ·have h3':¬(0≤s.pins∧s.pins≤10000):=by simp at h3;omega
     have e:zfc p=false:=by rw[hsl];simp[zbb,h1'];omega
     first|exact fin0 (by simp[e]) rfl|exact zaa (by simp[e])
    ·have h2':ahP (p.snaps.take k)+1≤s.id∧s.id≤p.next:=by simp at h2;omega
     have h3':0≤s.pins∧s.pins≤10000:=by simp at h3;omega
     refine hB _ ⟨k+1,by omega,by rw[ht,zjq,i1,hd];simp[zbb,h1',h2',h3'],by rw[ht,zjq];omega,by rw[ht,zjq];omega⟩ [] ?_ (by simp;omega);constructor<;>simp[hw,ht]
  ·have h1':¬p.snaps.drop (k+1)=[]:=fun e=>by rw[hlast]at e;simp[e]at h1
   simp[wA];refine CI.p (zim s.id (ahP (p.snaps.take k)+1) p.next) Tryz.call145 9999 ?_;simp;refine sGI (fun h2=>?_) (fun h2=>?_)<;>simp only[h2]<;>simp
   ·have h2':¬(ahP (p.snaps.take k)+1≤s.id∧s.id≤p.next):=by simp at h2;omega
    have e:zfc p=false:=by rw[hsl,zbb,if_neg h1'];simp;omega
    first|exact fin0 (by simp[e]) rfl|exact zaa (by simp[e])
   ·skip
    refine CI.p (zim s.pins 1 10000) Tryz.call145 9999 ?_;simp;refine sBI (fun h3=>?_) (fun h3=>?_)<;>simp only[h3]<;>simp
    ·have h3':¬(1≤s.pins∧s.pins≤10000):=by simp at h3;omega
     have e:zfc p=false:=by rw[hsl,zbb,if_neg h1'];simp;omega
     first|exact fin0 (by simp[e]) rfl|exact zaa (by simp[e])
    ·have h2':ahP (p.snaps.take k)+1≤s.id∧s.id≤p.next:=by simp at h2;omega
     have h3':1≤s.pins∧s.pins≤10000:=by simp at h3;omega
     refine hB _ ⟨k+1,by omega,by rw[ht,zjq,i1,hd,zbb,if_neg h1'];simp[h2',h3'],by rw[ht,zjq];omega,by rw[ht,zjq];omega⟩ [] ?_ (by simp;omega);constructor<;>simp[hw,ht]
 ·have hkl:k=(p.snaps).length:=by simp at h;omega
  subst hkl;simp only[h];simp[List.take_length,List.drop_length];obtain⟨i1,i2,i3⟩:=hi;have e:zfc p=(decide (0≤p.next)&&decide (p.next≤2147483647)&&decide ((p.snaps.length:Int)≤1000)):=by
   have e2:decide (p.snaps.length≤1000)=decide ((p.snaps.length:Int)≤1000):=decide_eq_decide.2 (by omega);rw[zfc,i1,List.drop_length,e2];simp[zbb,rngB]
  refine CI.p (zim p.next 0 2147483647) Tryz.call145 9999 ?_;simp;refine sGI (fun h2=>?_) (fun h2=>?_)<;>simp only[h2]<;>simp
  ·first|exact fin0 (by simp[e,h2]) rfl|exact zaa (by simp[e,h2])
  ·first|exact fin0 (by simp[e,h2]) rfl|exact zaa (by simp[e,h2])
attribute [simp] Tryz.ntmps48 Tryz.results48
theorem zja (p:Pins)(hp:OkPins p):Ct Tryz.prog 48 [st (ziw p)] [] [] (st (ziw (za3 p))) []:=by
 refine Ct.B Tryz.func48 mixed 9999 400 ?_;simp;refine CI.p (qgq p hp.sl hp.next) Tryz.call94 9999 ?_;simp;refine sBI (fun h1=>?_) (fun h1=>?_)<;>simp only[h1]<;>simp<;>(try simp only[nT,nF,dT,dF]at h1)
 ·first|exact fin0 (by simp[za3,h1]) rfl|exact zaa (by simp[za3,h1])
 ·first|exact fin0 (by simp[za3,h1]) rfl|exact zaa (by simp[za3,h1])
abbrev curA (o:Option Snap):AV:=.tup [int ((o.map (·.id)).getD 0),lst (((o.map (·.l)).getD []).map resC),bool o.isSome]
attribute [simp] Tryz.ntmps39 Tryz.results39
theorem qw6 (p:Pins)(hp:OkPins p):Ct Tryz.prog 39 [st (ziw p)] [] [] (curA (curP p)) []:=by
 refine Ct.B Tryz.func39 mixed 9999 400 ?_;simp;refine CI.p (zja p hp) Tryz.call48 9999 ?_;simp;have hs:=zht p;have hh:curP p=(za3 p).snaps.getLast? :=rfl;rw[hh];clear hh;generalize za3 p=q at hs⊢;refine CI.p (zuc q (by omega)) Tryz.call85 9999 ?_;simp;rcases zr8 q.snaps with e|⟨i,s,e⟩
 ·simp[e];first|exact fin0 (by simp[e]) rfl|exact zaa (by simp[e])
 ·have e1:((q.snaps.length:Int)-1)=i.length:=by rw[e];simp
  have e2:¬(i.length:Int)<0:=by omega
  have e3:i.length<q.snaps.length:=by rw[e];simp
  have e4:q.snaps[i.length]=s:=by simp[e]
  simp[e1,e2,e3,e4];refine⟨by decide+kernel,?_⟩;first|exact fin0 (by simp[e]) rfl|exact zaa (by simp[e])
theorem zql (l:List Snap):(l.flatMap (·.l)).map Res.key=l.flatMap fun s=>s.l.map Res.key:=by rw[List.map_flatMap]
attribute [simp] Tryz.ntmps21 Tryz.results21
theorem zxk (p:Pins)(hp:OkPins p):Ct Tryz.prog 21 [st (ziw p)] [] [] (lst ((zcw p).map keyC)) []:=by
 refine Ct.B Tryz.func21 mixed 9999 400 ?_;simp;refine CI.p (zja p hp) Tryz.call48 9999 ?_;simp;have hs:=zht p;have hq:=hp.sound.snaps;have hh:zcw p=((za3 p).snaps.flatMap fun s=>s.l.map Res.key).foldl putK []:=by rw[←zql];rfl
 rw[hh];clear hh;generalize(za3 p).snaps=l at hs hq⊢;refine LoopI.nilOwn 3 2 26 rfl ?_;refine LoopI.U mixed (l) (fun k=>[(3,.own 64),(8,lst (l.map zdd)),(9,int l.length),(10,int k.1)]) (fun k=>[(64,.grow 2 (((l.take k.1).flatMap fun s=>s.l.map Res.key).map keyC) 26)]) 65 [] (by constructor<;>simp) ?_;rintro⟨k,hk1⟩ B hB;refine CI.run 9999 400 rfl ?_;simp;refine sBI (fun h=>?_) (fun h=>?_)
 ·have hk:k<(l).length:=by simpa using h
  obtain⟨s,hx,hr,hm,ht,hd⟩:=inL hk;have hw:=wr (k:=k) (by omega);simp only[h];simp[hr,hw];have h64:=(hq s hm).2;have hfl:((l.take k).flatMap fun s=>s.l.map Res.key).length≤64000:=by
   have:=zpj (l:=l.take k) fun q hm=>(hq q (List.mem_of_mem_take hm)).2;rw[←zql,List.length_map];simp at this⊢;omega
  have hsm:(List.take k (List.map (fun a=>a.l.length) l)).sum≤64000:=by simpa[List.map_take]using hfl
  refine CI.cc [] (qb2 s.l (by omega)) Tryz.call49 9999 ?_;simp;refine⟨by omega,?_⟩;refine hB _ ⟨k+1,by omega⟩ [] ?_ (by simp;omega);constructor<;>simp[hw,ht]
 ·have hkl:k=(l).length:=by simp at h;omega
  subst hkl;simp only[h];simp[List.take_length,List.drop_length];have hfl:(l.flatMap fun s=>s.l.map Res.key).length≤64000:=by
   have:=zpj (l:=l) fun q hm=>(hq q hm).2;rw[←zql,List.length_map];omega
  refine CI.cc [64] (qay (l.flatMap fun s=>s.l.map Res.key) (by omega)) Tryz.call50 9999 ?_;simp;refine CI.cc [64] (zl6 (zk2 (l.flatMap fun s=>s.l.map Res.key)) (by rw[zex];omega)) Tryz.call52 9999 ?_;simp;rw[zx4];first|exact fin0 (by simp) rfl|exact zaa (by simp)
attribute [simp] Tryz.ntmps238 Tryz.results238
theorem qhe (p:Pins)(l:List Res)(hp:OkPins p):Ct Tryz.prog 238 [st (ziw p),lst (l.map resC)] [] [] (.tup [st (ziw (zbp p l).1),int (zbp p l).2.1,int (zbp p l).2.2]) []:=by
 refine Ct.B Tryz.func238 mixed 9999 400 ?_;simp;refine CI.p (zja p hp) Tryz.call48 9999 ?_;simp;have hs:=zht p;have hn:=hp.sound.next;have h0:=(saneP_iff.1 (zc7 p)).2.1;have hh:zbp p l=zdf (za3 p) l:=rfl;rw[hh];clear hh;generalize za3 p=q at hs hn h0⊢;have hw:IntKind.wrap .i64 (q.next+1)=q.next+1:=zab (by omega) (by omega);refine sBI (fun h1=>?_) (fun h1=>?_)<;>simp only[h1]<;>simp<;>(try simp only[nT,nF,dT,dF]at h1)
 ·first|exact fin0 (by simp[zdf,h1]) rfl|exact zaa (by simp[zdf,h1])
 obtain⟨nx,sn⟩:=q;simp only at hs hn h0 hw h1;have hf:(sn.filter fun x=>!decide (x.pins=0)).length≤1000:=Nat.le_trans (List.length_filter_le _ _) hs;refine CI.cc [] (qaa sn (by omega)) Tryz.call301 9999 ?_;simp;refine CI.cc [832] (qjw sn (fnD 302) (fun s=>decide (s.pins=0)) (fun s _=>FnOk.of (qi2 s) Tryz.call302 rfl rfl) (by omega)) Tryz.call300 9999 ?_;simp;have e:(zzs ⟨nx,sn⟩)=sn.filter fun x=>!decide (x.pins=0):=rfl;rw[←e]at hf;rw[←e];refine sBI (fun h2=>?_) (fun h2=>?_)<;>simp only[h2]<;>simp<;>(try simp only[nT,nF,dT,dF]at h2)
 ·have h2':1000≤(zzs ⟨nx,sn⟩).length:=by omega
  first|exact fin0 (by simp[zdf,h1,h2']) rfl|exact zaa (by simp[zdf,h1,h2'])
 ·have h2':¬1000≤(zzs ⟨nx,sn⟩).length:=by omega
  simp[hw];refine⟨by omega,?_⟩;first|exact fin0 (by simp[zdf,h1,h2']) rfl|exact zaa (by simp[zdf,h1,h2'])
end Go.Proofs.YtjoaclgkjhncjaaGreatDoor
namespace Go.Proofs.YtjoaclgkjhncjaaGreatDoor
open Go.AI Go.G
set_option maxRecDepth 20000
attribute [simp] Tryz.ntmps70 Tryz.results70
theorem qoy (n:Int):Ct Tryz.prog 70 [int n] [] [] (st (zu8 (newW n))) []:=by
 refine Ct.B Tryz.func70 mixed 9999 400 ?_;simp;refine CI.p (qo0 n) Tryz.call110 9999 ?_;simp;first|exact fin0 (by simp[newW,newC]) rfl|exact zaa (by simp[newW,newC])
attribute [simp] Tryz.ntmps132 Tryz.results132
theorem qgo (w:Warm)(hs:OkRs w.shown):Ct Tryz.prog 132 [st (zu8 w)] [] [] (bool (zg9 w)) []:=by
 refine Ct.B Tryz.func132 mixed 9999 400 ?_;simp;refine CI.p (qgt w.c) Tryz.call199 9999 ?_;simp;refine sGI (fun h1=>?_) (fun h1=>?_)<;>simp only[h1]<;>simp
 ·refine CI.p (qa1 w.c) Tryz.call200 9999 ?_;simp;refine CI.p (zg4 w.shown (zfi w.c) hs) Tryz.call25 9999 ?_;simp;refine sGI (fun h2=>?_) (fun h2=>?_)<;>simp only[h2]<;>simp
  ·refine sGI (fun h3=>?_) (fun h3=>?_)<;>simp only[h3]<;>simp
   ·refine⟨by decide+kernel,?_⟩;first|exact fin0 (by simp[zg9,h1,h2,h3]) rfl|exact zaa (by simp[zg9,h1,h2,h3])
   ·refine⟨by decide+kernel,?_⟩;first|exact fin0 (by simp[zg9,h1,h2,h3]) rfl|exact zaa (by simp[zg9,h1,h2,h3])
  ·refine⟨by decide+kernel,?_⟩;first|exact fin0 (by simp[zg9,h1,h2]) rfl|exact zaa (by simp[zg9,h1,h2])
 ·refine⟨by decide+kernel,?_⟩;first|exact fin0 (by simp[zg9,h1]) rfl|exact zaa (by simp[zg9,h1])
attribute [simp] Tryz.ntmps297 Tryz.results297
theorem qk6 (w:Warm)(hs:OkRs w.shown):Ct Tryz.prog 297 [st (zu8 w)] [] [] (st (zu8 (zew w))) []:=by
 refine Ct.B Tryz.func297 mixed 9999 400 ?_;simp;refine CI.p (qgo w hs) Tryz.call132 9999 ?_;simp;refine sBI (fun h1=>?_) (fun h1=>?_)<;>simp only[h1]<;>simp<;>(try simp only[nT,nF,dT,dF]at h1)
 ·refine CI.p (qoy w.c.cap) Tryz.call70 9999 ?_;simp;first|exact fin0 (by simp[zew,h1]) rfl|exact zaa (by simp[zew,h1])
 ·first|exact fin0 (by simp[zew,h1]) rfl|exact zaa (by simp[zew,h1])
abbrev qv7 (w:Warm)(b:Bool):List (Nat×Blk):=[(0,.cells ((zu8 w++[bD b]).map .d) 392)]
attribute [simp] Tryz.ntmps299 Tryz.results299
theorem qp3 (w:Warm)(c:Cache)(hc:OkRs c.l):Ct Tryz.prog 299 [.ptr 0 0,st (zdv c)] [] (qv7 w false) (.tup []) (qv7 (zmj w c).1 (zmj w c).2):=by
 refine Ct.B Tryz.func299 mixed 9999 400 ?_;simp;refine CI.p (qa1 c) Tryz.call200 9999 ?_;simp;refine CI.p (zg4 (zfi c) w.shown (zwo hc)) Tryz.call25 9999 ?_;simp;refine sBI (fun h1=>?_) (fun h1=>?_)<;>simp only[h1]<;>simp<;>(try simp only[nT,nF,dT,dF]at h1)
 ·first| (refine⟨[],?_,?_,?_,?_,?_,?_,?_⟩<;>simp[nmF,inB,zmj,h1];done)| (refine⟨by decide+kernel,?_⟩;refine⟨[],?_,?_,?_,?_,?_,?_,?_⟩<;>simp[nmF,inB,zmj,h1])
 ·first| (refine⟨[],?_,?_,?_,?_,?_,?_,?_⟩<;>simp[nmF,inB,zmj,h1];done)| (refine⟨by decide+kernel,?_⟩;refine⟨[],?_,?_,?_,?_,?_,?_,?_⟩<;>simp[nmF,inB,zmj,h1])
attribute [simp] Tryz.ntmps237 Tryz.results237
theorem qqb (w:Warm)(adds:List Res)(gone:List Key)(hs:OkRs w.shown)(hc:OkRs w.c.l)(ha:OkRs adds)(hl:adds.length≤1000)(hg:gone.length≤9223372036854775807):Ct Tryz.prog 237 [st (zu8 w),lst (adds.map resC),lst (gone.map keyC)] [] [] (.tup [st (zu8 (zcr w adds gone).1),bool (zcr w adds gone).2.1,int (zcr w adds gone).2.2]) []:=by
 refine Ct.B Tryz.func237 mixed 9999 400 ?_;simp;refine CI.p (qk6 w hs) Tryz.call297 9999 ?_;simp;have hh:zcr w adds gone=zh7 (zew w) adds gone:=rfl;rw[hh];clear hh;obtain⟨h1,h2⟩:=zwm hc hs;generalize zew w=q at h1 h2⊢;refine CI.p (qtx q.c adds gone hl hg) Tryz.call298 9999 ?_;simp;have h3:=zws (gone:=gone) h1 ha hl;refine sBI (fun h4=>?_) (fun h4=>?_)<;>simp only[h4]<;>simp<;>(try simp only[nT,nF,dT,dF]at h4)
 ·first|exact fin0 (by simp[zh7,h4]) rfl|exact zaa (by simp[zh7,h4])
 ·refine CI.cc [512] (qp3 q (zgd q.c adds gone).1 h3) Tryz.call299 9999 ?_;simp;refine⟨by decide+kernel,?_⟩;first|exact fin0 (by simp[zh7,h4]) rfl|exact zaa (by simp[zh7,h4])
end Go.Proofs.YtjoaclgkjhncjaaGreatDoor
namespace Go.Proofs.YtjoaclgkjhncjaaGreatDoor
open Go.AI Go.G
set_option maxRecDepth 20000
attribute [simp] Tryz.ntmps235 Tryz.results235
theorem qyb (i:Nonce.Nn):Ct Tryz.prog 235 [st (nnC i)] [] [] (st (nnC (Nonce.inF i))) []:=by
 refine Ct.B Tryz.func235 mixed 9999 400 ?_;simp;refine CI.p (ztc i) Tryz.call131 9999 ?_;simp;refine sBI (fun h1=>?_) (fun h1=>?_)<;>simp only[h1]<;>simp<;>(try simp only[nT,nF,dT,dF]at h1)
 ·first|exact fin0 (by simp[Nonce.inF,h1]) rfl|exact zaa (by simp[Nonce.inF,h1])
 ·refine CI.p (zs9 i.m) Tryz.call71 9999 ?_;simp;first|exact fin0 (by simp[Nonce.inF,h1]) rfl|exact zaa (by simp[Nonce.inF,h1])
attribute [simp] Tryz.ntmps181 Tryz.results181
theorem qp5 (i:Nonce.Nn)(k_ n:Int):Ct Tryz.prog 181 [st (nnC i),int k_,int n] [] [] (.tup [st (nnC (Nonce.take i k_ n).1),int (Nonce.take i k_ n).2]) []:=by
 refine Ct.B Tryz.func181 mixed 9999 400 ?_;simp;refine CI.p (qyb i) Tryz.call235 9999 ?_;simp;simp only[Nonce.take];have hb:=Nonce.inF_ok i;generalize Nonce.inF i=q at hb⊢;obtain⟨A,B,C,D,M⟩:=q;simp only[Nonce.Nn.ok]at hb;have wA:IntKind.wrap .i64 (A+1)=A+1:=zab (by omega) (by omega);have wB:IntKind.wrap .i64 (B+1)=B+1:=zab (by omega) (by omega);have wC:IntKind.wrap .i64 (C+1)=C+1:=zab (by omega) (by omega);have wD:IntKind.wrap .i64 (D+1)=D+1:=zab (by omega) (by omega);refine CI.p (zud k_) Tryz.call236 9999 ?_;simp;by_cases hk:Nonce.kindB k_=true
 ·rcases Nonce.kindB_is hk with rfl|rfl|rfl|rfl
  all_goals
   simp[hk]
  all_goals
   repeat' first
    | (refine sGI (fun h=>?_) (fun h=>?_)<;>simp only[h]<;>simp[h,wA,wB,wC,wD])
    | (refine sBI (fun h=>?_) (fun h=>?_)<;>simp only[h]<;>simp[h,wA,wB,wC,wD])
    | (refine⟨(show zba _ _ from by decide+kernel),?_⟩)
    |fail
  all_goals
   clear wA wB wC wD;simp only[Bool.not_eq_true',Bool.not_eq_false',decide_eq_true_eq,decide_eq_false_iff_not]at*;first
    | (exfalso;omega)
    | (refine fin0 ?_ rfl;simp[Nonce.takeQ,Nonce.Nn.last,Nonce.Nn.set, *];done)
    | (refine fin0 ?_ rfl;simp_all[Nonce.takeQ,Nonce.Nn.last,Nonce.Nn.set];done)
    | (refine fin0 ?_ rfl;simp_all[Nonce.takeQ,Nonce.Nn.last,Nonce.Nn.set];split<;>first| (exfalso;omega)|simp_all)
 ·simp[hk];first|exact fin0 (by simp[Nonce.takeQ,hk]) rfl|exact zaa (by simp[Nonce.takeQ,hk])
attribute [simp] Tryz.ntmps69 Tryz.results69
theorem qje (m:Int):Ct Tryz.prog 69 [int m] [] [] (st (nnC (Nonce.startI m))) []:=by
 refine Ct.B Tryz.func69 mixed 9999 400 ?_;simp;refine CI.p (zs9 m) Tryz.call71 9999 ?_;simp;first|exact fin0 (by simp) rfl|exact zaa (by simp)
attribute [simp] Tryz.ntmps33 Tryz.results33
theorem zhf (l m:Int):Ct Tryz.prog 33 [int l,int m] [] [] (st (zc1 (newX l m))) []:=by
 refine Ct.B Tryz.func33 mixed 9999 400 ?_;simp;refine CI.p (qje m) Tryz.call69 9999 ?_;simp;refine CI.p (qoy l) Tryz.call70 9999 ?_;simp;first|exact fin0 (by simp[newX,newW,newC]) rfl|exact zaa (by simp[newX,newW,newC])
attribute [simp] Tryz.ntmps128 Tryz.results128
theorem qbn (n:Int):Ct Tryz.prog 128 [int n] [] [] (bool (rngB n 2147483647)) []:=by
 refine Ct.B Tryz.func128 mixed 9999 400 ?_;simp
 repeat' first
  | (refine sGI (fun h=>?_) (fun h=>?_)<;>simp only[h]<;>simp[h])
  | (refine sBI (fun h=>?_) (fun h=>?_)<;>simp only[h]<;>simp[h])
  | (refine⟨(show zba _ _ from by decide+kernel),?_⟩)
  |fail
 all_goals exact fin0 (by simp[*,rngB]) rfl
attribute [simp] Tryz.ntmps130 Tryz.results130
theorem zs1 (n:Int):Ct Tryz.prog 130 [int n] [] [] (bool (za8 n)) []:=by
 refine Ct.B Tryz.func130 mixed 9999 400 ?_;simp;rw[qfe]
 repeat' first
  | (refine sGI (fun h=>?_) (fun h=>?_)<;>simp only[h]<;>simp[h])
  | (refine sBI (fun h=>?_) (fun h=>?_)<;>simp only[h]<;>simp[h])
  | (refine⟨(show zba _ _ from by decide+kernel),?_⟩)
  |fail
 all_goals exact fin0 (by simp[*]) rfl
attribute [simp] Tryz.ntmps182 Tryz.results182
theorem zxq (s:Side):Ct Tryz.prog 182 [st (zc1 s)] [] [] (bool (zks s)) []:=by
 refine Ct.B Tryz.func182 mixed 9999 400 ?_;simp;first|exact fin0 (by simp[zks]) rfl|exact zaa (by simp[zks])
attribute [simp] Tryz.ntmps133 Tryz.results133
theorem qg1 (p:Pins)(hp:OkPins p):Ct Tryz.prog 133 [st (ziw p)] [] [] (bool (zpx p)) []:=by
 refine Ct.B Tryz.func133 mixed 9999 400 ?_;simp;have hl:=zow hp;refine CI.p (zxk p hp) Tryz.call21 9999 ?_;simp;refine CI.p (zkt ⟨3,0,0,0,0,[],[],0,[],zcw p⟩ (zxy (v:=⟨[],zcw p,0,zFrame,false⟩) (by simp only;omega))) Tryz.call185 9999 ?_;simp;first|exact fin0 (by simp[zpx]) rfl|exact zaa (by simp[zpx])
attribute [simp] Tryz.ntmps134 Tryz.results134
theorem qoa (s:Side)(h:OkX s):Ct Tryz.prog 134 [st (zc1 s)] [] [] (bool (zdz s)) []:=by
 refine Ct.B Tryz.func134 mixed 9999 400 ?_;simp;refine CI.p (qw6 s.p h.pins) Tryz.call39 9999 ?_;simp;cases hc:curP s.p with
 |none=>
  simp[hc];refine sBI (fun h1=>?_) (fun h1=>?_)<;>simp only[h1]<;>simp<;>(try simp only[nT,nF,dT,dF]at h1)
  ·first|exact fin0 (by simp[zdz,hc,h1]) rfl|exact zaa (by simp[zdz,hc,h1])
  ·first|exact fin0 (by simp[zdz,hc,h1]) rfl|exact zaa (by simp[zdz,hc,h1])
 |some c=>
  have hok:OkRs c.l:=by
   have:c∈(za3 s.p).snaps:=List.mem_of_getLast? hc;exact(h.pins.sound.snaps c this).1
  simp[hc];refine sBI (fun h1=>?_) (fun h1=>?_)<;>simp only[h1]<;>simp<;>(try simp only[nT,nF,dT,dF]at h1)
  ·first|exact fin0 (by simp[zdz,hc,h1]) rfl|exact zaa (by simp[zdz,hc,h1])
  ·refine CI.p (zg4 c.l s.w.shown hok) Tryz.call25 9999 ?_;simp;first|exact fin0 (by simp[zdz,hc,h1]) rfl|exact zaa (by simp[zdz,hc,h1])
attribute [simp] Tryz.ntmps198 Tryz.results198
theorem qwh (e:Errs):Ct Tryz.prog 198 [.d (.ro true [[iD e.e0],[iD e.e1],[iD e.e2],[iD e.e3]]),.d (fnD 130)] [] [] (int (if za8 e.e0=true then 0 else if za8 e.e1=true then 1 else if za8 e.e2=true then 2 else if za8 e.e3=true then 3 else-1)) []:=by
 refine Ct.B Tryz.func198 mixed 9999 400 ?_;simp;refine LoopI.unroll mixed (Plain.retC _ _ _ _ _) rfl ?_;refine CI.run 9999 400 rfl ?_;simp;refine CI.ff (FnOk.of (zs1 e.e0) Tryz.call130 rfl rfl) rfl rfl rfl 9999 ?_;simp;refine sBI (fun h1=>?_) (fun h1=>?_)<;>simp only[h1]<;>simp
 ·first|exact fin0 (by simp[h1]) rfl|exact zaa (by simp[h1])
 refine LoopI.unroll mixed (Plain.retC _ _ _ _ _) rfl ?_;refine CI.run 9999 400 rfl ?_;simp;refine CI.ff (FnOk.of (zs1 e.e1) Tryz.call130 rfl rfl) rfl rfl rfl 9999 ?_;simp;refine sBI (fun h2=>?_) (fun h2=>?_)<;>simp only[h2]<;>simp
 ·first|exact fin0 (by simp[h1,h2]) rfl|exact zaa (by simp[h1,h2])
 refine LoopI.unroll mixed (Plain.retC _ _ _ _ _) rfl ?_;refine CI.run 9999 400 rfl ?_;simp;refine CI.ff (FnOk.of (zs1 e.e2) Tryz.call130 rfl rfl) rfl rfl rfl 9999 ?_;simp;refine sBI (fun h3=>?_) (fun h3=>?_)<;>simp only[h3]<;>simp
 ·first|exact fin0 (by simp[h1,h2,h3]) rfl|exact zaa (by simp[h1,h2,h3])
 refine LoopI.unroll mixed (Plain.retC _ _ _ _ _) rfl ?_;refine CI.run 9999 400 rfl ?_;simp;refine CI.ff (FnOk.of (zs1 e.e3) Tryz.call130 rfl rfl) rfl rfl rfl 9999 ?_;simp;refine sBI (fun h4=>?_) (fun h4=>?_)<;>simp only[h4]<;>simp
 ·first|exact fin0 (by simp[h1,h2,h3,h4]) rfl|exact zaa (by simp[h1,h2,h3,h4])
 refine LoopI.unroll mixed (Plain.retC _ _ _ _ _) rfl ?_;refine CI.run 9999 400 rfl ?_;simp;first|exact fin0 (by simp[h1,h2,h3,h4]) rfl|exact zaa (by simp[h1,h2,h3,h4])
attribute [simp] Tryz.ntmps129 Tryz.results129
theorem qxk (e:Errs):Ct Tryz.prog 129 [.d (.ro true [[iD e.e0],[iD e.e1],[iD e.e2],[iD e.e3]]),.d (fnD 130)] [] [] (bool (za8 e.e0||za8 e.e1||za8 e.e2||za8 e.e3)) []:=by
 refine Ct.B Tryz.func129 mixed 9999 400 ?_;simp;refine CI.p (qwh e) Tryz.call198 9999 ?_;simp;cases h0:za8 e.e0<;>cases h1:za8 e.e1<;>cases h2:za8 e.e2<;>cases h3:za8 e.e3;all_goals
  simp[h0,h1,h2,h3]
 all_goals
  first|exact fin0 (by simp[h0,h1,h2,h3]) rfl|exact zaa (by simp[h0,h1,h2,h3])
attribute [simp] Tryz.ntmps86 Tryz.results86
theorem qgn (s:Side)(h:OkX s):Ct Tryz.prog 86 [st (zc1 s)] [] [] (bool (za0 s)) []:=by
 refine Ct.B Tryz.func86 mixed 1 400 ?_;simp;refine CI.s (tm:=[(1,.d (.pro (zc1 s)))]) (mm:=[]) (nx:=65) [] [64] (by constructor<;>simp) ?_;refine CI.run 9999 400 rfl ?_;simp;refine CI.p (qbn s.epoch) Tryz.call128 9999 ?_;simp;refine sGI (fun h1=>?_) (fun h1=>?_)<;>simp only[h1]<;>simp
 ·refine CI.p (qbn s.turn) Tryz.call128 9999 ?_;simp;refine sGI (fun h2=>?_) (fun h2=>?_)<;>simp only[h2]<;>simp
  ·refine CI.arr ti51 ti35 9999 ?_;simp;refine CI.p (qxk s.errs) Tryz.call129 9999 ?_;simp;refine sGI (fun h3=>?_) (fun h3=>?_)<;>simp only[h3]<;>simp
   ·refine CI.p (ztc s.inn) Tryz.call131 9999 ?_;simp;refine sGI (fun h4=>?_) (fun h4=>?_)<;>simp only[h4]<;>simp
    ·refine CI.p (qgo s.w h.shown) Tryz.call132 9999 ?_;simp;refine sGI (fun h5=>?_) (fun h5=>?_)<;>simp only[h5]<;>simp
     ·refine CI.p (qgq s.p h.sl h.next) Tryz.call94 9999 ?_;simp;refine sGI (fun h6=>?_) (fun h6=>?_)<;>simp only[h6]<;>simp
      ·refine CI.p (qg1 s.p h.pins) Tryz.call133 9999 ?_;simp;refine sGI (fun h7=>?_) (fun h7=>?_)<;>simp only[h7]<;>simp
       ·refine CI.p (qoa s h) Tryz.call134 9999 ?_;simp;first|exact fin0 (by simp[za0,h1,h2,h3,h4,h5,h6,h7]) rfl|exact zaa (by simp[za0,h1,h2,h3,h4,h5,h6,h7])
       ·first|exact fin0 (by simp[za0,h7]) rfl|exact zaa (by simp[za0,h7])
      ·first|exact fin0 (by simp[za0,h6]) rfl|exact zaa (by simp[za0,h6])
     ·first|exact fin0 (by simp[za0,h5]) rfl|exact zaa (by simp[za0,h5])
    ·first|exact fin0 (by simp[za0,h4]) rfl|exact zaa (by simp[za0,h4])
   ·have h3':(za8 s.errs.e0||za8 s.errs.e1||za8 s.errs.e2||za8 s.errs.e3)=true:=by
     cases hb:(za8 s.errs.e0||za8 s.errs.e1||za8 s.errs.e2||za8 s.errs.e3)with
     |true=>rfl
     |false=>simp only[Bool.or_eq_false_iff]at hb;simp[hb]at h3
    have e:za0 s=false:=by unfold za0;rw[h3'];simp
    first|exact fin0 (by simp[e]) rfl|exact zaa (by simp[e])
  ·first|exact fin0 (by simp[za0,h2]) rfl|exact zaa (by simp[za0,h2])
 ·first|exact fin0 (by simp[za0,h1]) rfl|exact zaa (by simp[za0,h1])
attribute [simp] Tryz.ntmps40 Tryz.results40
theorem zk1 (s:Side)(h:OkX s):Ct Tryz.prog 40 [st (zc1 s)] [] [] (st (zc1 (soundX s))) []:=by
 refine Ct.B Tryz.func40 mixed 9999 400 ?_;simp;refine CI.p (qgn s h) Tryz.call86 9999 ?_;simp;refine sBI (fun h1=>?_) (fun h1=>?_)<;>simp only[h1]<;>simp<;>(try simp only[nT,nF,dT,dF]at h1)
 ·refine CI.p (zhf s.w.c.cap s.inn.m) Tryz.call33 9999 ?_;simp;first|exact fin0 (by simp[soundX,h1]) rfl|exact zaa (by simp[soundX,h1])
 ·first|exact fin0 (by simp[soundX,h1]) rfl|exact zaa (by simp[soundX,h1])
attribute [simp] Tryz.ntmps239 Tryz.results239
theorem zjf (s:Side)(f:G.Frame)(h:OkX s)(ht:s.turn≤2147483647)(ht0:0≤s.turn):Ct Tryz.prog 239 [st (zc1 s),st (zam f)] [] [] (.tup [st (zc1 (zhs s)),st (zam {f with turn:=s.turn+1,held:=zcw s.p})]) []:=by
 refine Ct.B Tryz.func239 mixed 9999 400 ?_;simp;have hw:IntKind.wrap .i64 (s.turn+1)=s.turn+1:=zab (by omega) (by omega);simp[hw];refine CI.p (zxk s.p h.pins) Tryz.call21 9999 ?_;simp;refine⟨by decide+kernel,?_⟩;refine⟨by decide+kernel,?_⟩;first|exact fin0 (by simp[zhs]) rfl|exact zaa (by simp[zhs])
attribute [simp] Tryz.ntmps184 Tryz.results184
theorem qxo (s:Side)(f:G.Frame)(h:OkX s)(ht:s.turn≤2147483647)(ht0:0≤s.turn)(hk:f.kind=0∨f.kind=1∨f.kind=2∨f.kind=3):Ct Tryz.prog 184 [st (zc1 s),st (zam f)] [] [] (.tup [st (zc1 (ackX s f).1),lst ((ackX s f).2.map zam)]) []:=by
 refine Ct.B Tryz.func184 mixed 9999 400 ?_;simp;rcases hk with hk|hk|hk|hk
 all_goals
  simp[hk]
 ·refine CI.p (zjf s ⟨2,f.epoch,f.kind,f.nonce,0,[],[],s.errs.e0,[],[]⟩ h ht ht0) Tryz.call239 9999 ?_ (ha:=by simp[hk]);simp[hk];refine⟨by decide+kernel,?_⟩;refine⟨by decide+kernel,?_⟩;first|exact fin0 (by simp[ackX,Errs.get,hk]) rfl|exact zaa (by simp[ackX,Errs.get,hk])
 ·refine CI.p (zjf s ⟨2,f.epoch,f.kind,f.nonce,0,[],[],s.errs.e1,[],[]⟩ h ht ht0) Tryz.call239 9999 ?_ (ha:=by simp[hk]);simp[hk];refine⟨by decide+kernel,?_⟩;refine⟨by decide+kernel,?_⟩;first|exact fin0 (by simp[ackX,Errs.get,hk]) rfl|exact zaa (by simp[ackX,Errs.get,hk])
 ·refine CI.p (zjf s ⟨2,f.epoch,f.kind,f.nonce,0,[],[],s.errs.e2,[],[]⟩ h ht ht0) Tryz.call239 9999 ?_ (ha:=by simp[hk]);simp[hk];refine⟨by decide+kernel,?_⟩;refine⟨by decide+kernel,?_⟩;first|exact fin0 (by simp[ackX,Errs.get,hk]) rfl|exact zaa (by simp[ackX,Errs.get,hk])
 ·refine CI.p (zjf s ⟨2,f.epoch,f.kind,f.nonce,0,[],[],s.errs.e3,[],[]⟩ h ht ht0) Tryz.call239 9999 ?_ (ha:=by simp[hk]);simp[hk];refine⟨by decide+kernel,?_⟩;refine⟨by decide+kernel,?_⟩;first|exact fin0 (by simp[ackX,Errs.get,hk]) rfl|exact zaa (by simp[ackX,Errs.get,hk])
attribute [simp] Tryz.ntmps180 Tryz.results180
theorem qg7 (s:Side)(f:G.Frame)(hf:OkFrame f):Ct Tryz.prog 180 [st (zc1 s),st (zam f)] [] [] (int (zbo s f)) []:=by
 refine Ct.B Tryz.func180 mixed 9999 400 ?_;simp;refine sBI (fun h1=>?_) (fun h1=>?_)<;>simp only[h1]<;>simp<;>(try simp only[nT,nF,dT,dF]at h1)
 ·first|exact fin0 (by simp[zbo,h1]) rfl|exact zaa (by simp[zbo,h1])
 refine CI.p (zkt f hf) Tryz.call185 9999 ?_;simp;refine sBI (fun h2=>?_) (fun h2=>?_)<;>simp only[h2]<;>simp<;>(try simp only[nT,nF,dT,dF]at h2)
 ·first|exact fin0 (by simp[zbo,h1,h2]) rfl|exact zaa (by simp[zbo,h1,h2])
 refine sBI (fun h3=>?_) (fun h3=>?_)<;>simp only[h3]<;>simp<;>(try simp only[nT,nF,dT,dF]at h3)
 ·first|exact fin0 (by simp[zbo,h1,h2,h3]) rfl|exact zaa (by simp[zbo,h1,h2,h3])
 refine sBI (fun h4=>?_) (fun h4=>?_)<;>simp only[h4]<;>simp<;>(try simp only[nT,nF,dT,dF]at h4)
 ·first|exact fin0 (by simp[zbo,h1,h2,h3,h4]) rfl|exact zaa (by simp[zbo,h1,h2,h3,h4])
 ·first|exact fin0 (by simp[zbo,h1,h2,h3,h4]) rfl|exact zaa (by simp[zbo,h1,h2,h3,h4])
attribute [simp] Tryz.ntmps190 Tryz.results190
theorem qj1 (s:Side)(ep:Int)(h:OkX s):Ct Tryz.prog 190 [st (zc1 s),int ep] [] [] (.tup [st (zc1 (zao s ep).1),lst ((zao s ep).2.1.map zam),int (zao s ep).2.2]) []:=by
 refine Ct.B Tryz.func190 mixed 9999 400 ?_;simp;refine CI.p (zk1 s h) Tryz.call40 9999 ?_;simp;have hh:zao s ep=zcf (soundX s) ep:=rfl;rw[hh];clear hh;have ho:=h.sound;have ht:=zyr (zfy s);generalize soundX s=q at ho ht⊢;refine sGI (fun h1=>?_) (fun h1=>?_)<;>simp only[h1]<;>simp
 ·have h1':ep≤q.epoch∨2147483647<ep:=.inl (by simpa using h1);first|exact fin0 (by simp[zcf,h1']) rfl|exact zaa (by simp[zcf,h1'])
 refine sBI (fun h2=>?_) (fun h2=>?_)<;>simp only[h2]<;>simp
 ·have h1':ep≤q.epoch∨2147483647<ep:=.inr (by simpa using h2);first|exact fin0 (by simp[zcf,h1']) rfl|exact zaa (by simp[zcf,h1'])
 have h1':¬(ep≤q.epoch∨2147483647<ep):=by simp at h1 h2;omega
 refine CI.p (zxq q) Tryz.call182 9999 ?_;simp;refine sBI (fun h3=>?_) (fun h3=>?_)<;>simp only[h3]<;>simp<;>(try simp only[nT,nF,dT,dF]at h3)
 ·first|exact fin0 (by simp[zcf,h1',h3]) rfl|exact zaa (by simp[zcf,h1',h3])
 refine CI.p (qje q.inn.m) Tryz.call69 9999 ?_;simp;refine CI.p (qik q.w.c.l (by have:=ho.cl;omega)) Tryz.call216 9999 ?_;simp;refine CI.p (zjf {q with epoch:=ep,up:=true,inn:=Nonce.startI q.inn.m,errs:=⟨0,0,0,0⟩} ⟨3,ep,0,0,0,[],[],0,[],[]⟩ (.mk' ho.c ho.cl ho.shown ho.pins) ht.2 ht.1) Tryz.call239 9999 ?_;simp;refine⟨by decide+kernel,?_⟩;first|exact fin0 (by simp[zcf,h1',h3,zlz,qci,zhs]) rfl|exact zaa (by simp[zcf,h1',h3,zlz,qci,zhs])
attribute [simp] Tryz.ntmps183 Tryz.results183
theorem qur (s:Side)(f:G.Frame)(h:OkX s)(hf:OkFrame f)(hl:f.adds.length≤1000)(hk:f.kind=0∨f.kind=1∨f.kind=2∨f.kind=3):Ct Tryz.prog 183 [st (zc1 s),st (zam f)] [] [] (.tup [st (zc1 (zd4 s f).1),int (zd4 s f).2]) []:=by
 refine Ct.B Tryz.func183 mixed 9999 400 ?_;simp;refine CI.p (qqb s.w f.adds f.gone h.shown h.c hf.adds hl hf.gone) Tryz.call237 9999 ?_;simp;obtain⟨o1,o2⟩:=qbk (gone:=f.gone) h.c h.shown hf.adds hl;obtain⟨o3,o4⟩:=zvk s.w f.adds f.gone;unfold zd4;dsimp only;generalize zcr s.w f.adds f.gone=W at o1 o2 o3 o4⊢;obtain⟨w',ch,why⟩:=W;simp only at o1 o2 o3 o4⊢;cases ch with
 |false=>
  simp;refine CI.p (qg1 s.p h.pins) Tryz.call133 9999 ?_;simp;refine sBI (fun h1=>?_) (fun h1=>?_)<;>simp only[h1]<;>simp<;>(try simp only[nT,nF,dT,dF]at h1)
  ·rcases hk with hk|hk|hk|hk
   all_goals
    simp[hk]
   all_goals
    first|exact fin0 (by simp[h1,hk,Errs.set]) rfl|exact zaa (by simp[h1,hk,Errs.set])
  ·rcases hk with hk|hk|hk|hk
   all_goals
    simp[hk]
   all_goals
    refine⟨by decide+kernel,?_⟩
   all_goals
    first|exact fin0 (by simp[h1,hk,Errs.set]) rfl|exact zaa (by simp[h1,hk,Errs.set])
 |true=>
  simp;refine CI.p (qhe s.p w'.shown h.pins) Tryz.call238 9999 ?_;simp;have op:=zr0 h.pins o2 o4;refine sBI (fun h0=>?_) (fun h0=>?_)<;>simp only[h0]<;>simp<;>(try simp only[nT,nF,dT,dF]at h0)
  ·first|exact fin0 (by simp[h0]) rfl|exact zaa (by simp[h0])
  refine CI.p (qg1 (zbp s.p w'.shown).1 op) Tryz.call133 9999 ?_;simp;refine sBI (fun h1=>?_) (fun h1=>?_)<;>simp only[h1]<;>simp<;>(try simp only[nT,nF,dT,dF]at h1)
  ·rcases hk with hk|hk|hk|hk
   all_goals
    simp[hk]
   all_goals
    first|exact fin0 (by simp[h0,h1,hk,Errs.set]) rfl|exact zaa (by simp[h0,h1,hk,Errs.set])
  ·rcases hk with hk|hk|hk|hk
   all_goals
    simp[hk]
   all_goals
    refine⟨by decide+kernel,?_⟩
   all_goals
    first|exact fin0 (by simp[h0,h1,hk,Errs.set]) rfl|exact zaa (by simp[h0,h1,hk,Errs.set])
attribute [simp] Tryz.ntmps118 Tryz.results118
theorem qqr (s:Side)(f:G.Frame)(h:OkX s)(hf:OkFrame f):Ct Tryz.prog 118 [st (zc1 s),st (zam f)] [] [] (.tup [st (zc1 (zea s f).1),lst ((zea s f).2.1.map zam),int (zea s f).2.2]) []:=by
 refine Ct.B Tryz.func118 mixed 9999 400 ?_;simp;refine CI.p (zk1 s h) Tryz.call40 9999 ?_;simp;have hh:zea s f=zgw (soundX s) f:=rfl;rw[hh];clear hh;have ho:=h.sound;have ht:=zyr (zfy s);generalize soundX s=q at ho ht⊢;refine CI.p (qg7 q f hf) Tryz.call180 9999 ?_;simp;refine sBI (fun h1=>?_) (fun h1=>?_)<;>simp only[h1]<;>simp<;>(try simp only[nT,nF,dT,dF]at h1)
 ·first|exact fin0 (by simp[zgw,h1]) rfl|exact zaa (by simp[zgw,h1])
 have F:=zgk h1;have hk:=zk8 F;have hl:=(zcv (frameE_zero.1 F).small).1;refine CI.p (qp5 q.inn f.kind f.nonce) Tryz.call181 9999 ?_;simp;refine sBI (fun h2=>?_) (fun h2=>?_)<;>simp only[h2]<;>simp<;>(try simp only[nT,nF,dT,dF]at h2)
 ·refine CI.p (zxq q) Tryz.call182 9999 ?_;simp;refine sBI (fun h3=>?_) (fun h3=>?_)<;>simp only[h3]<;>simp<;>(try simp only[nT,nF,dT,dF]at h3)
  ·first|exact fin0 (by simp[zgw,h1,h2,h3]) rfl|exact zaa (by simp[zgw,h1,h2,h3])
  refine CI.p (qur q f ho hf (by omega) hk) Tryz.call183 9999 ?_;simp;have hos:=ho.step hf.adds (show f.adds.length≤1000 by omega);have htu:=qdc q f;refine sBI (fun h4=>?_) (fun h4=>?_)<;>simp only[h4]<;>simp<;>(try simp only[nT,nF,dT,dF]at h4)
  ·first|exact fin0 (by simp[zgw,h1,h2,h3,h4]) rfl|exact zaa (by simp[zgw,h1,h2,h3,h4])
  refine CI.p (zxq q) Tryz.call182 9999 ?_ (ha:=by simp[h3]);simp[h3];refine CI.p (qxo {(zd4 q f).1 with inn:=(Nonce.take q.inn f.kind f.nonce).1} f (.mk' hos.c hos.cl hos.shown hos.pins) (by simp only[htu];exact ht.2) (by simp only[htu];exact ht.1) hk) Tryz.call184 9999 ?_;simp;first|exact fin0 (by simp[zgw,h1,h2,h3,h4]) rfl|exact zaa (by simp[zgw,h1,h2,h3,h4])
 ·refine sBI (fun h5=>?_) (fun h5=>?_)<;>simp only[h5]<;>simp<;>(try simp only[nT,nF,dT,dF]at h5)
  ·refine CI.p (zxq q) Tryz.call182 9999 ?_;simp;refine sBI (fun h3=>?_) (fun h3=>?_)<;>simp only[h3]<;>simp<;>(try simp only[nT,nF,dT,dF]at h3)
   ·first|exact fin0 (by simp[zgw,h1,h2,h3,h5]) rfl|exact zaa (by simp[zgw,h1,h2,h3,h5])
   refine CI.p (qxo q f ho ht.2 ht.1 hk) Tryz.call184 9999 ?_;simp;first|exact fin0 (by simp[zgw,h1,h2,h3,h5]) rfl|exact zaa (by simp[zgw,h1,h2,h3,h5])
  ·first|exact fin0 (by simp[zgw,h1,h2,h5]) rfl|exact zaa (by simp[zgw,h1,h2,h5])
attribute [simp] Tryz.ntmps14 Tryz.results14
theorem ztf (s:Side)(h:OkX s):Ct Tryz.prog 14 [st (zc1 s)] [] [] (.tup [lst ((((zh9 s).map (·.l)).getD []).map resC),bool (zh9 s).isSome]) []:=by
 refine Ct.B Tryz.func14 mixed 9999 400 ?_;simp;refine CI.p (zk1 s h) Tryz.call40 9999 ?_;simp;have hh:zh9 s=curP (soundX s).p:=rfl;rw[hh];refine CI.p (qw6 (soundX s).p h.sound.pins) Tryz.call39 9999 ?_;simp;first|exact fin0 (by simp) rfl|exact zaa (by simp)
end Go.Proofs.YtjoaclgkjhncjaaGreatDoor
namespace Go.Proofs.YtjoaclgkjhncjaaGreatDoor
open Go.AI Go.G
set_option maxRecDepth 20000
attribute [simp] Tryz.ntmps23 Tryz.results23
theorem zpl (s:Sess)(p:Store)(hs:OkSess s)(hl:s.v.have_.length≤1000000)(hpl:p.hist.length≤1000000):Ct Tryz.prog 23 [st (zfb s),st (zbg p)] [] [] (bool (zfl s p)) []:=by
 refine Ct.B Tryz.func23 mixed 9999 400 ?_;simp;refine CI.p (ztb s hs hl) Tryz.call55 9999 ?_;simp;have ho:=(zvn hs).v.have_;have hh:zfl s p=((zbm s).greeted&& !(zbm s).v.open_&&decide ((zbm s).v.have_=nowL p)):=rfl;rw[hh];clear hh;generalize zbm s=q at ho⊢;refine CI.p (ztx p hpl) Tryz.call22 9999 ?_;simp;refine sGI (fun h1=>?_) (fun h1=>?_)<;>simp only[h1]<;>simp
 ·refine sGI (fun h2=>?_) (fun h2=>?_)<;>simp only[h2]<;>simp
  ·refine CI.p (zg4 q.v.have_ (nowL p) ho) Tryz.call25 9999 ?_ (ha:=by simp[nowL]);simp[nowL];first|exact fin0 (by simp[h1,h2]) rfl|exact zaa (by simp[h1,h2])
  ·first|exact fin0 (by simp[h1,h2]) rfl|exact zaa (by simp[h1,h2])
 ·first|exact fin0 (by simp[h1]) rfl|exact zaa (by simp[h1])
end Go.Proofs.YtjoaclgkjhncjaaGreatDoor
