/-
  LAYERS 16 to 20: the walks of caches, of pins, of what is warm, of sidecars, of what is settled.
-/
import Derived.Test.YtekckhepcdndcaaGreatDoorWe
import Derived.Test.YtekckhepcdndcaaGreatDoorPs
import Derived.Defers
import Derived.Recover
import Derived.Tactics
import Derived.Tactics2
import Derived.WalkLawsBesides
import Derived.Test.YtekckhepcdndcaaGreatDoorWf
import Derived.Test.YtekckhepcdndcaaGreatDoorFd
import Derived.Test.YtekckhepcdndcaaGreatDoorWh
set_option linter.unusedSimpArgs false
set_option linter.unusedVariables false
namespace Go.Proofs.YtekckhepcdndcaaGreatDoor
open Go.AI Go.G
set_option maxRecDepth 20000
abbrev badV (n:Int):Value:=.iface 460 (.agg #[.int .i64 n])
theorem qth (w:World)(v:Value):(Instr.typeAssert (.iface 460 v) 20 460 false).run Tryz.prog w=.ok v w:=by kernel_rfl
theorem qvq (w:World)(n:Int):(Instr.field 460 (.agg #[.int .i64 n]) 0).run Tryz.prog w=.ok (.int .i64 n) w:=by kernel_rfl
theorem qdg (p:Addr)(w:World):
  CallsD Tryz.prog 365 #[.pointer (some p)] .returning w fun e u' w'=>e=.returned (.tuple #[])∧u'=.returning∧w'=w:=by
 refine callsD_of_wpS Tryz.func365 rfl fun c₀ cs hu=>?_;apply wpS_seq;apply wpS_region;simp[wpOpsS,go_sem,recoverD,hu,Tryz.ntmps365,Exit.thenS];apply wpS_seq;apply wpS_region;simp[wpOpsS,go_sem,recoverD,hu,Tryz.ntmps365,Exit.thenS];refine wpS_cond (t:=false) (by simp[Act.eval,Array.replicate]) ?_;simp only[Bool.false_eq_true,if_false];refine wpS_of_wp (wp_skip ?_);cases c₀;simp_all[bodyPostS,results,Tryz.results365]
theorem qmn (p:Addr)(x:Value)(n:Int)(w:World)(hc:w.cell? p=some x)(hz:w.frozen? p=false):
  CallsD Tryz.prog 365 #[.pointer (some p)] (.panicking (pan (badV n))) w fun e u' w'=>
   e=.returned (.tuple #[])∧u'=.panicking [{v:=badV n,recovered:=true}]∧w'=w.setCell p (.int .i64 n):=by
 refine callsD_of_wpS Tryz.func365 rfl fun c₀ cs hu=>?_;apply wpS_seq;apply wpS_region;simp[wpOpsS,go_sem,recoverD,hu,Tryz.ntmps365,Exit.thenS];apply wpS_seq;apply wpS_region;simp[wpOpsS,go_sem,recoverD,hu,Tryz.ntmps365,Exit.thenS];refine wpS_cond (t:=true) (by simp[Act.eval,Array.replicate]) ?_;simp only[if_true];apply wpS_region;simp[wpOpsS,go_sem,qth,qvq,hc,hz,bodyPostS,results,Tryz.results365]
theorem qk5 (n:Int)(h:¬n=0)(w:World):Calls Tryz.prog 366 #[.int .i64 n] w fun e w'=>e=.panicked (pan (badV n))∧w'=w:=by
 go_enter Tryz.func366,Tryz.ntmps366
 go_wp2
 exact⟨rfl,rfl,rfl⟩
theorem qmm (g:FuncId)(xs:Array Value)(w:World)(R:Ending→World→Prop)(hen:zcp Tryz.prog g)(S:Int→World→Prop)
  (hdo:Calls Tryz.prog g xs (w.alloc (.cells #[.int .i64 0] 42)) fun e w'=>∃n,S n w'∧(∃x,w'.cell? ⟨w.heap.size,0,none⟩=some x)∧w'.frozen? ⟨w.heap.size,0,none⟩=false∧((n=0∧∃v,e=.returned v)∨e=.panicked (pan (badV n))))
  (hR:∀n w',S n w'→R (.returned (.int .i64 n)) (w'.setCell ⟨w.heap.size,0,none⟩ (.int .i64 n))):Calls Tryz.prog 318 #[.func (.func g) #[] xs] w R:=by
 have hmf:∀(fn:Fn) (first cap:Array Value) (w:World),(Instr.makeFunc fn first cap).run Tryz.prog w=.ok (.func fn first cap) w:=fun _ _ _ _=>rfl
 go_enter_defers Tryz.func318,Tryz.ntmps318
 refine wp_seq (wp_region ?_);simp[wpOps,go_sem,Oper.wp,Exit.then];refine .inl ?_;refine wp_seq (wp_region ?_);simp[wpOps,go_sem,Oper.wp,Exit.then,hmf];refine .inl (.inl ?_);refine wp_seq (wp_region ?_);simp[wpOps,go_sem,Oper.wp,Exit.then,invoke];refine .inl (.inl ?_);rw[hen];simp only[Oper.upon];refine hdo.mono fun e w' ⟨n,h1,⟨x,h2⟩,h3,h4⟩=>?_;rcases h4 with⟨rfl,v,rfl⟩|rfl
 ·refine wp_seq (wp_region ?_);simp[wpOps,go_sem,Oper.wp,Exit.then,h2,h3];refine .inl (wp_ret ?_);refine leaves_cons (f:=365) (args:=#[.pointer (some ⟨w.heap.size,0,none⟩)]) (by simp) (by simp[go_sem]) ?_;refine(qdg ⟨w.heap.size,0,none⟩ _).mono ?_;rintro e u' w'' ⟨rfl,rfl,rfl⟩;simp[Leaves,settle,results,Tryz.results318,go_sem,h2];exact hR 0 w' h1
 ·refine leaves_cons (f:=365) (args:=#[.pointer (some ⟨w.heap.size,0,none⟩)]) (by simp) (by simp[go_sem]) ?_;refine(qmn ⟨w.heap.size,0,none⟩ x n _ h2 h3).mono ?_;rintro e u' w'' ⟨rfl,rfl,rfl⟩;simp[Leaves,settle,results,Tryz.results318,go_sem,h2];exact hR n w' h1
theorem qbb {fin:Value→Ending}{g:FuncId}{args:List AV}{mr m m':List (Nat×Blk)}{res:AV}(n:Int)(hen:zcp Tryz.prog g)(hct:CtF (fun _ _=>True) fin Tryz.prog g args mr m res m')(hf:∀v,(n=0∧fin v=.returned v)∨fin v=.panicked (pan (badV n))):
  Ct Tryz.prog 318 [.fn (.func g) [] args] mr m (int n) m':=by
 intro σ I w vs hib hl hv hrm hfree;obtain⟨v,rfl⟩:∃v,vs=[v]:=by
  match vs,hl with
  |[v],_=>exact⟨v,rfl⟩
 have h0:=hv 0 _ v rfl rfl;cases h0 with
 | @fn _ _ _ xs ys hx hy h1 h2=>
   obtain rfl:xs=[]:=List.eq_nil_of_length_eq_zero (by simpa using hx);refine qmm g ys.toArray w _ hen (fun k w'=>k=n∧∃σ' I',Post σ I (w.alloc (.cells #[.int .i64 0] 42)) (zac (mr++m)) 64 σ' I' w' (zac (mr++m'))) ?_ ?_
   ·have hold:∀k,k<w.heap.size→(w.alloc (.cells #[.int .i64 0] 42)).heap[k]? =w.heap[k]? :=fun k hk=>heap_alloc_old w _ hk;refine(hct σ I _ ys trivial (fun k hk=>by have:=hib k hk;simp;omega) hy (fun i c x p1 p2=>(h2 i c x p1 p2).mono (fun k hk=>hold k (hib k hk)) (fun _ h=>h) (fun _ _ h=>h)) (hrm.moved (by simp) fun k hk=>hold k ?_) hfree).mono fun e w' ⟨v,σ',I',he,hp,_⟩=>?_
    ·rcases hk with hk|⟨b,q,y,q1,q2,q3⟩
     ·exact hib k hk
     ·obtain⟨y',q4,_,q5⟩:=hrm.blk b q q1;rw[q2]at q4;cases q4;exact(q5 k q3).1
    ·obtain⟨_,p2,p3⟩:=zu5 (v:=undef) hrm hib hp;exact⟨n,⟨rfl,σ',I',hp⟩,⟨_,p2⟩,p3,(hf v).imp (fun⟨a,b⟩=>⟨a,v,he.trans b⟩) he.trans⟩
   ·rintro k w' ⟨rfl,σ',I',hp⟩;exact⟨_,σ',I',rfl,(zu5 hrm hib hp).1,.d (.v _)⟩
theorem zwz {g:FuncId}{args:List AV}{mr m m':List (Nat×Blk)}{res:AV}(hen:zcp Tryz.prog g)(hct:Ct Tryz.prog g args mr m res m'):Ct Tryz.prog 318 [.fn (.func g) [] args] mr m (int 0) m':=qbb 0 hen hct.F fun _=>.inl ⟨rfl,rfl⟩
theorem zwy {g:FuncId}{args:List AV}{mr m m':List (Nat×Blk)}{n:Int}(hen:zcp Tryz.prog g)(hct:CtX Tryz.prog g args mr m (badV n) m'):Ct Tryz.prog 318 [.fn (.func g) [] args] mr m (int n) m':=qbb n hen hct fun _=>.inr rfl
theorem zyc (n:Int)(h:¬n=0):CtX Tryz.prog 366 [int n] [] [] (badV n) []:=by
 intro σ I w vs _ hib hl hv hrm hfree;obtain⟨v,rfl⟩:∃v,vs=[v]:=by
  match vs,hl with
  |[v],_=>exact⟨v,rfl⟩
 have h0:=hv 0 _ v rfl rfl;cases h0 with
 |d h0=>cases h0 with
  |v=>
   refine(qk5 n h w).mono fun e w' ⟨he,hw⟩=>?_;subst hw;exact⟨undef,σ,I,he,⟨rfl,rfl,SameOut.refl _,Nat.le_refl _,fun _ _ h=>h,fun b h1 h2=>absurd h1 h2,fun _ h=>h,hib,fun _ h=>.inl h,fun _ _ _=>rfl,hrm,fun b k h=>by simp[zac]at h,fun _ h=>.inl h⟩,.any _⟩
attribute [simp] Tryz.ntmps366 Tryz.results366
theorem zmh :Ct Tryz.prog 366 [int 0] [] [] (.tup []) []:=by
 refine Ct.B Tryz.func366 mixed 9999 400 ?_;simp;first|exact fin0 (by simp) rfl|exact zaa (by simp)
attribute [simp] Tryz.ntmps367 Tryz.results367
theorem zt9 (n:Int):Ct Tryz.prog 367 [bool true,int n] [] [] (int 0) []:=by
 refine Ct.B Tryz.func367 mixed 9999 400 ?_;simp;first|exact fin0 (by simp) rfl|exact zaa (by simp)
theorem qd4 (n:Int):Ct Tryz.prog 367 [bool false,int n] [] [] (int n) []:=by
 refine Ct.B Tryz.func367 mixed 9999 400 ?_;simp;first|exact fin0 (by simp) rfl|exact zaa (by simp)
attribute [simp] Tryz.ntmps166 Tryz.results166
theorem zrv (n:Int):Ct Tryz.prog 166 [int n] [] [] (int (capN n)) []:=by
 refine Ct.B Tryz.func166 mixed 9999 400 ?_;simp;have e:=qbc n;first|exact fin0 (by simp[e]) rfl|exact zaa (by simp[e])
attribute [simp] Tryz.ntmps123 Tryz.results123
theorem qnt (n:Int):Ct Tryz.prog 123 [int n] [] [] (st (zdl (newC n))) []:=by
 refine Ct.B Tryz.func123 mixed 9999 400 ?_;simp;refine CI.p (zrv n) Tryz.call166 9999 ?_;simp;first|exact fin0 (by simp[newC]) rfl|exact zaa (by simp[newC])
attribute [simp] Tryz.ntmps320 Tryz.results320
theorem qg1 (c:Cache)(l:List Res)(h:zea c.cap l=0):Ct Tryz.prog 320 [st (zdl c),lst (l.map resC)] [] [] (.tup []) []:=by
 refine Ct.B Tryz.func320 mixed 9999 400 ?_;simp;obtain⟨h1,h2,h3⟩:=must_iff.1 h;have hl:=tab_len h1;refine CI.p (zoe l) Tryz.call232 9999 ?_;simp;refine CI.p zmh Tryz.call366 9999 ?_ (ha:=by simp[h1]);simp[h1];refine CI.p (zt9 8) Tryz.call367 9999 ?_ (ha:=by simp[h2]);simp[h2];refine CI.p zmh Tryz.call366 9999 ?_;simp;refine CI.p (zsg l (zhb h1) (by omega)) Tryz.call234 9999 ?_;simp;refine CI.p zmh Tryz.call366 9999 ?_ (ha:=by simp[h3]);simp[h3];first|exact fin0 (by simp) rfl|exact zaa (by simp)
theorem qk9 (c:Cache)(l:List Res)(h:¬tabE l=0):CtX Tryz.prog 320 [st (zdl c),lst (l.map resC)] [] [] (badV (tabE l)) []:=by
 refine CtX.B Tryz.func320 mixed 9999 400 ?_;simp;refine CI.p (zoe l) Tryz.call232 9999 ?_;simp;refine CI.up [] (zyc (tabE l) h) Tryz.call366 ?_;refine⟨rfl,?_⟩;constructor<;>simp[nmF,inB]
theorem qlc (c:Cache)(l:List Res)(h1:tabE l=0)(h2:¬(l.length:Int)≤c.cap):CtX Tryz.prog 320 [st (zdl c),lst (l.map resC)] [] [] (badV 8) []:=by
 refine CtX.B Tryz.func320 mixed 9999 400 ?_;simp;have hl:=tab_len h1;refine CI.p (zoe l) Tryz.call232 9999 ?_;simp;refine CI.p zmh Tryz.call366 9999 ?_ (ha:=by simp[h1]);simp[h1];refine CI.p (qd4 8) Tryz.call367 9999 ?_ (ha:=by simp[h2]);simp[h2];refine CI.up [] (zyc 8 (by decide)) Tryz.call366 ?_;refine⟨rfl,?_⟩;constructor<;>simp[nmF,inB]
theorem qla (c:Cache)(l:List Res)(h1:tabE l=0)(h2:(l.length:Int)≤c.cap)(h3:¬zbq l=0):CtX Tryz.prog 320 [st (zdl c),lst (l.map resC)] [] [] (badV (zbq l)) []:=by
 refine CtX.B Tryz.func320 mixed 9999 400 ?_;simp;have hl:=tab_len h1;refine CI.p (zoe l) Tryz.call232 9999 ?_;simp;refine CI.p zmh Tryz.call366 9999 ?_ (ha:=by simp[h1]);simp[h1];refine CI.p (zt9 8) Tryz.call367 9999 ?_ (ha:=by simp[h2]);simp[h2];refine CI.p zmh Tryz.call366 9999 ?_;simp;refine CI.p (zsg l (zhb h1) (by omega)) Tryz.call234 9999 ?_;simp;refine CI.up [] (zyc (zbq l) h3) Tryz.call366 ?_;refine⟨rfl,?_⟩;constructor<;>simp[nmF,inB]
theorem qg0 (c:Cache)(l:List Res)(h:¬zea c.cap l=0):CtX Tryz.prog 320 [st (zdl c),lst (l.map resC)] [] [] (badV (zea c.cap l)) []:=by
 by_cases h1:tabE l=0
 ·by_cases h2:(l.length:Int)≤c.cap
  ·have e:zea c.cap l=zbq l:=by simp[zea,h1,show¬c.cap<l.length by omega]
   rw[e]at h⊢;exact qla c l h1 h2 h
  ·have e:zea c.cap l=8:=by simp[zea,h1,show c.cap<l.length by omega]
   rw[e];exact qlc c l h1 h2
 ·have e:zea c.cap l=tabE l:=by simp[zea,h1]
  rw[e];exact qk9 c l h1
abbrev qbd (c:Cache):Nat×Blk:=(0,.cells ((zdl c).map .d) 85)
attribute [simp] Tryz.ntmps364 Tryz.results364
theorem qfj (c:Cache)(h:zea c.cap c.l=0):Ct Tryz.prog 364 [.ptr 0 0] [qbd c] [] (.tup []) []:=by
 refine Ct.B Tryz.func364 mixed 9999 400 ?_;simp;refine CI.p (qg1 c c.l h) Tryz.call320 9999 ?_;simp;first| (refine⟨[],?_,?_,?_,?_,?_,?_,?_⟩<;>simp[nmF,inB];done)| (refine⟨by decide+kernel,?_⟩;refine⟨[],?_,?_,?_,?_,?_,?_,?_⟩<;>simp[nmF,inB])
theorem qfi (c:Cache)(h:¬zea c.cap c.l=0):CtX Tryz.prog 364 [.ptr 0 0] [qbd c] [] (badV (zea c.cap c.l)) []:=by
 refine CtX.B Tryz.func364 mixed 9999 400 ?_;simp;refine CI.up [] (qg0 c c.l h) Tryz.call320 ?_;refine⟨rfl,?_⟩;constructor<;>simp[nmF,inB]
theorem qj5 (c:Cache):Ct Tryz.prog 318 [.fn (.func 364) [] [.ptr 0 0]] [qbd c] [] (int (zea c.cap c.l)) []:=by
 by_cases h:zea c.cap c.l=0
 ·rw[h];exact zwz Tryz.call364 (qfj c h)
 ·exact zwy Tryz.call364 (qfi c h)
attribute [simp] Tryz.ntmps314 Tryz.results314
theorem qfh (c:Cache):Ct Tryz.prog 314 [st (zdl c)] [] [] (bool (zku c)) []:=by
 refine Ct.B Tryz.func314 mixed 9999 400 ?_;simp;refine CI.p (zrv c.cap) Tryz.call166 9999 ?_;simp;refine sGI (fun h1=>?_) (fun h1=>?_)<;>simp only[h1]<;>simp<;>(try simp only[nT,nF,dT,dF]at h1)
 ·refine CI.cc [64] (qj5 c) Tryz.call318 9999 ?_;simp;refine⟨by decide+kernel,?_⟩;have e:zku c=decide (zea c.cap c.l=0):=by unfold zku;rw[decide_eq_true h1,Bool.true_and]
  first|exact fin0 (by simp[e]) rfl|exact zaa (by simp[e])
 ·refine⟨by decide+kernel,?_⟩;have e:zku c=false:=by unfold zku;rw[decide_eq_false h1,Bool.false_and]
  first|exact fin0 (by simp[e]) rfl|exact zaa (by simp[e])
attribute [simp] Tryz.ntmps317 Tryz.results317
theorem zzt (c:Cache):Ct Tryz.prog 317 [st (zdl c)] [] [] (st (zdl (zd4 c))) []:=by
 refine Ct.B Tryz.func317 mixed 9999 400 ?_;simp;refine CI.p (qfh c) Tryz.call314 9999 ?_;simp;refine sBI (fun h1=>?_) (fun h1=>?_)<;>simp only[h1]<;>simp<;>(try simp only[nT,nF,dT,dF]at h1)
 ·refine CI.p (qnt c.cap) Tryz.call123 9999 ?_;simp;first|exact fin0 (by simp[zd4,h1]) rfl|exact zaa (by simp[zd4,h1])
 ·first|exact fin0 (by simp[zd4,h1]) rfl|exact zaa (by simp[zd4,h1])
theorem zqv (c:Cache):AscR (zd4 c).l∧(zd4 c).l.length≤64:=by
 have h:=(saneC_iff.1 (zjw c)).2.1;exact⟨zhb h,tab_len h⟩
attribute [simp] Tryz.ntmps315 Tryz.results315
theorem zzv (c:Cache):Ct Tryz.prog 315 [st (zdl c)] [] [] (lst ((zf8 c).map resC)) []:=by
 refine Ct.B Tryz.func315 mixed 9999 400 ?_;simp;refine CI.p (zzt c) Tryz.call317 9999 ?_;simp;obtain⟨h1,h2⟩:=zqv c;refine CI.p (zxz (zd4 c).l h1 (by omega)) Tryz.call295 9999 ?_;simp;first|exact fin0 (by simp[zf8]) rfl|exact zaa (by simp[zf8])
abbrev appR (c:Cache)(adds:List Res)(gone:List Key):List (Nat×Blk):=[qbd c,(1,.cells [lst (adds.map resC)] 45),(2,.cells [lst (gone.map keyC)] 46)]
attribute [simp] Tryz.ntmps319 Tryz.results319
theorem qsu (c:Cache)(adds:List Res)(gone:List Key)(hl:c.l.length+adds.length≤1000000)(hg:gone.length≤9223372036854775807)(h:zea c.cap (zbk c.l adds gone)=0):Ct Tryz.prog 319 [.ptr 0 0,.ptr 1 0,.ptr 2 0,.ptr 3 0] (appR c adds gone) [(3,.cells ((zdl c).map .d) 85)] (.tup []) [(3,.cells ((zdl ⟨c.cap,zbk c.l adds gone⟩).map .d) 85)]:=by
 refine Ct.B Tryz.func319 mixed 9999 400 ?_;simp;refine CI.p (zso c.l adds gone hl hg) Tryz.call184 9999 ?_;simp;refine CI.p (qg1 c (zbk c.l adds gone) h) Tryz.call320 9999 ?_;simp;first| (refine⟨[],?_,?_,?_,?_,?_,?_,?_⟩<;>simp[nmF,inB];done)| (refine⟨by decide+kernel,?_⟩;refine⟨[],?_,?_,?_,?_,?_,?_,?_⟩<;>simp[nmF,inB])
theorem qst (c:Cache)(adds:List Res)(gone:List Key)(hl:c.l.length+adds.length≤1000000)(hg:gone.length≤9223372036854775807)(h:¬zea c.cap (zbk c.l adds gone)=0):CtX Tryz.prog 319 [.ptr 0 0,.ptr 1 0,.ptr 2 0,.ptr 3 0] (appR c adds gone) [(3,.cells ((zdl c).map .d) 85)] (badV (zea c.cap (zbk c.l adds gone))) [(3,.cells ((zdl ⟨c.cap,zbk c.l adds gone⟩).map .d) 85)]:=by
 refine CtX.B Tryz.func319 mixed 9999 400 ?_;simp;refine CI.p (zso c.l adds gone hl hg) Tryz.call184 9999 ?_;simp;refine CI.up [] (qg0 c (zbk c.l adds gone) h) Tryz.call320 ?_;refine⟨rfl,?_⟩;constructor<;>simp[nmF,inB]
theorem qwf (c:Cache)(adds:List Res)(gone:List Key)(hl:c.l.length+adds.length≤1000000)(hg:gone.length≤9223372036854775807):
  Ct Tryz.prog 318 [.fn (.func 319) [] [.ptr 0 0,.ptr 1 0,.ptr 2 0,.ptr 3 0]] (appR c adds gone) [(3,.cells ((zdl c).map .d) 85)] (int (zea c.cap (zbk c.l adds gone))) [(3,.cells ((zdl ⟨c.cap,zbk c.l adds gone⟩).map .d) 85)]:=by
 by_cases h:zea c.cap (zbk c.l adds gone)=0
 ·rw[h];exact zwz Tryz.call319 (qsu c adds gone hl hg h)
 ·exact zwy Tryz.call319 (qst c adds gone hl hg h)
attribute [simp] Tryz.ntmps254 Tryz.results254
theorem qss (c:Cache)(adds:List Res)(gone:List Key)(hl:adds.length≤1000)(hg:gone.length≤9223372036854775807):Ct Tryz.prog 254 [st (zdl c),lst (adds.map resC),lst (gone.map keyC)] [] [] (.tup [st (zdl (zgf c adds gone).1),int (zgf c adds gone).2]) []:=by
 refine Ct.B Tryz.func254 mixed 9999 400 ?_;simp;refine CI.p (zzt c) Tryz.call317 9999 ?_;simp;have h1:=(zqv c).2;have hh:zgf c adds gone=zlz (zd4 c) adds gone:=rfl;rw[hh];clear hh;generalize zd4 c=q at h1⊢;refine CI.cc [64,128,192,640] (qwf q adds gone (by omega) hg) Tryz.call318 9999 ?_ (ha:=by simp[appR]) (hk:=by simp[appR]);simp[appR];refine sBI (fun h2=>?_) (fun h2=>?_)<;>simp only[h2]<;>simp<;>(try simp only[nT,nF,dT,dF]at h2)
 ·first|exact fin0 (by simp[zlz,h2]) rfl|exact zaa (by simp[zlz,h2])
 ·first|exact fin0 (by simp[zlz,h2]) rfl|exact zaa (by simp[zlz,h2])
end Go.Proofs.YtekckhepcdndcaaGreatDoor
namespace Go.Proofs.YtekckhepcdndcaaGreatDoor
open Go.AI Go.G
set_option maxRecDepth 20000
attribute [simp] Tryz.ntmps257 Tryz.results257
theorem zrs (x:Snap)(l:List Snap)(hl:l.length≤1000000):Ct Tryz.prog 257 [lst ((x::l).map zc6)] [] [] (.own 64) [(64,.grow 3 ((x::l).map zc6) 312)]:=by
 refine Ct.B Tryz.func257 mixed 9999 400 ?_;simp;refine⟨by omega,?_⟩;first| (refine⟨[(64,384)],?_,?_,?_,?_,?_,?_,?_⟩<;>simp[nmF,inB];done)| (refine⟨by decide+kernel,?_⟩;refine⟨[(64,384)],?_,?_,?_,?_,?_,?_,?_⟩<;>simp[nmF,inB])
attribute [simp] Tryz.ntmps321 Tryz.results321
attribute [simp] Tryz.ntmps256 Tryz.results256
theorem zv9 (l:List Snap)(kf:D)(p:Snap→Bool)(hf:∀x∈l,FnOk Tryz.prog (.d kf) [st (zc6 x)] (bool (p x)))(hl:l.length≤9223372036854775807):Ct Tryz.prog 321 [.own 0,.d kf] [(0,.grow 3 (l.map zc6) 312)] [] (int (idxF p l)) []:=by
 refine Ct.B Tryz.func321 mixed 9999 400 ?_;simp;refine LoopI.inv mixed rfl (ι:={k:Nat//k≤(l).length∧(l.take k).all (fun x=>!p x)=true}) (fun k=>[(0,.own 0),(1,.d kf),(7,int l.length),(8,int k.1)]) (fun k=>[(0,.grow 3 (l.map zc6) 312)]) 64 (fun k=>(l).length-k.1) ⟨0,by omega,by simp⟩ [] (by constructor<;>simp) ?_;rintro⟨k,hk1,hi⟩ B hB;refine CI.run 9999 400 rfl ?_;simp;refine sBI (fun h=>?_) (fun h=>?_)
 ·have hk:k<(l).length:=by simpa using h
  obtain⟨r,hx,hr,hm,ht,hd⟩:=inL hk;have hw:=wr (k:=k) (by omega);simp only[h];simp[hr,hw,hk];refine CI.ff (hf r hm) rfl rfl rfl 9999 ?_ (ha:=by simp[hx]);simp[hx];refine sBI (fun hp=>?_) (fun hp=>?_)<;>simp only[hp]<;>simp
  ·have e:=zcr hi hr hp;first| (refine⟨[],?_,?_,?_,?_,?_,?_,?_⟩<;>simp[nmF,inB,e];done)| (refine⟨by decide+kernel,?_⟩;refine⟨[],?_,?_,?_,?_,?_,?_,?_⟩<;>simp[nmF,inB,e])
  ·refine hB _ ⟨k+1,by omega,by simp[ht,hi,hp]⟩ [] ?_ (by simp;omega);constructor<;>simp[hw,ht,hp]
 ·have hkl:k=(l).length:=by simp at h;omega
  subst hkl;simp only[h];simp[List.take_length,List.drop_length];rw[List.take_length]at hi;have e:idxF p l= -1:=zbc (fun x hx=>by have:=List.all_eq_true.1 hi x hx;simpa using this);first| (refine⟨[],?_,?_,?_,?_,?_,?_,?_⟩<;>simp[nmF,inB,e];done)| (refine⟨by decide+kernel,?_⟩;refine⟨[],?_,?_,?_,?_,?_,?_,?_⟩<;>simp[nmF,inB,e])
theorem qil (l:List Snap)(kf:D)(p:Snap→Bool)(hf:∀x∈l,FnOk Tryz.prog (.d kf) [st (zc6 x)] (bool (p x)))(hl:l.length≤1000000)(h1:idxF p l= -1):Ct Tryz.prog 256 [.own 0,.d kf] [] [(0,.grow 3 (l.map zc6) 312)] (.own 0) [(0,.grow 3 (l.map zc6) 312)]:=by
 refine Ct.B Tryz.func256 mixed 9999 400 ?_;simp;refine CI.cc [0] (zv9 l kf p hf (by omega)) Tryz.call321 9999 ?_;simp;simp[h1];first| (refine⟨[],?_,?_,?_,?_,?_,?_,?_⟩<;>simp[nmF,inB];done)| (refine⟨by decide+kernel,?_⟩;refine⟨[],?_,?_,?_,?_,?_,?_,?_⟩<;>simp[nmF,inB])
theorem qik (l:List Snap)(kf:D)(p:Snap→Bool)(hf:∀x∈l,FnOk Tryz.prog (.d kf) [st (zc6 x)] (bool (p x)))(hl:l.length≤1000000)(i:Nat)(x:Snap)(h1:idxF p l=i)(h2:i<l.length):Ct Tryz.prog 256 [.own 0,.d kf] [] [(0,.grow 3 (l.map zc6) 312)] (.sl 0 3 0 (l.filter fun x=>!p x).length) [(0,.grow 3 ((l.filter fun x=>!p x).map zc6++List.replicate (l.length-(l.filter fun x=>!p x).length) [iD 0,iD 0,.v (.slice none 0 0)]) 312)]:=by
 refine Ct.B Tryz.func256 mixed 9999 400 ?_;simp;refine CI.cc [0] (zv9 l kf p hf (by omega)) Tryz.call321 9999 ?_;simp;have hne:¬(i:Int)= -1:=by omega
 have hwi:IntKind.wrap .i64 ((i:Int)+1)=i+1:=zab (by omega) (by omega);simp[h1,hne,hwi];have d0:=DelSt.start (x:=x) h1 h2;refine LoopI.inv mixed rfl (ι:={q:Nat×Nat×List Snap//DelSt p l q.1 q.2.1 q.2.2}) (fun k=>[(0,.own 0),(1,.d kf),(5,int k.1.2.1),(6,int k.1.1)]) (fun k=>[(0,.grow 3 (k.1.2.2.map zc6) 312)]) 64 (fun k=>l.length-k.1.1) ⟨(i+1,i,l),d0⟩ [] (by constructor<;>simp) ?_;rintro⟨⟨j,i,cur⟩,hd⟩ B hB;clear h1 h2 hne hwi d0;have hlen:=hd.len;have hlt:=hd.lt;have hle:=hd.le;simp only at hlen hlt hle;have w1:IntKind.wrap .i64 ((j:Int)+1)=j+1:=zab (by omega) (by omega);have w2:IntKind.wrap .i64 ((i:Int)+1)=i+1:=zab (by omega) (by omega);refine CI.run 9999 400 rfl ?_;simp[hlen];refine sBI (fun h=>?_) (fun h=>?_)<;>simp only[h]<;>simp<;>(try simp only[nT,nF,dT,dF]at h)
 ·have hj:j<l.length:=by omega
  have hv:l[j]? =some l[j]:=List.getElem?_eq_getElem hj;have hm:l[j]∈l:=List.getElem_mem hj;generalize l[j]=v at hv hm;have hg:=hd.get hv;have hjc:j<cur.length:=by omega
  have hgx:cur[j]=v:=by rw[List.getElem?_eq_getElem hjc]at hg;exact Option.some.inj hg
  simp[hjc,hgx];refine CI.ff (hf v hm) rfl rfl rfl 9999 ?_;simp;have hic:i<cur.length:=by omega
  refine sBI (fun h2=>?_) (fun h2=>?_)<;>simp only[h2]<;>simp[hic]
  ·have hp:p v=false:=by simpa using h2
   refine hB _ ⟨(j+1,i+1,cur.set i v),hd.keep hv hp⟩ [] ?_ (by simp;omega);constructor<;>simp[w1,w2,List.map_set]
  ·have hp:p v=true:=by simpa using h2
   refine hB _ ⟨(j+1,i,cur),hd.del hv hp⟩ [] ?_ (by simp;omega);constructor<;>simp[w1]
 ·have hj:j=l.length:=by omega
  subst hj;have e:cur.take i=l.filter (fun x=>!p x):=hd.done;simp[hlen];have e2:List.take i (List.map zc6 cur)=List.map zc6 (List.filter (fun x=>!p x) l):=by rw[←List.map_take,e]
  have e3:(List.filter (fun x=>!p x) l).length=i:=by rw[←e,List.length_take];omega
  refine⟨by omega,by omega,by omega,?_⟩;have e4:List.drop (i+(l.length-i)) (List.map zc6 cur)=[]:=by rw[List.drop_eq_nil_iff];simp;omega
  rw[e2,e3,e4];first| (refine⟨[],?_,?_,?_,?_,?_,?_,?_⟩<;>simp[nmF,inB];done)| (refine⟨by decide+kernel,?_⟩;refine⟨[],?_,?_,?_,?_,?_,?_,?_⟩<;>simp[nmF,inB])
theorem qij (l:List Snap)(kf:D)(p:Snap→Bool)(hf:∀x∈l,FnOk Tryz.prog (.d kf) [st (zc6 x)] (bool (p x)))(hl:l.length≤1000000):Ct Tryz.prog 256 [.own 0,.d kf] [] [(0,.grow 3 (l.map zc6) 312)] (.own 64) [(64,.grow 3 ((l.filter fun x=>!p x).map zc6) 312)]:=by
 rcases zja p l with⟨h1,h2⟩|⟨i,x,h1,h2,h3,h4⟩
 ·have e:(l.filter fun x=>!p x)=l:=by
   rw[List.filter_eq_self];intro a ha;have:=List.find?_eq_none.1 h2 a ha;simpa using this
  have:=Ct.trunc (Or.inl ⟨rfl,rfl⟩) (Nat.le_refl _) (qil l kf p hf hl h1);rw[List.take_length]at this;rw[e];exact this
 ·have:=Ct.trunc (Or.inr rfl) (by simp) (qik l kf p hf hl i x h1 h2);rw[List.take_left' (by simp)]at this;exact this
theorem zy5 :Ct Tryz.prog 257 [lst []] [] [] (.own 64) [(64,.grow 3 [] 312)]:=by
 refine Ct.B Tryz.func257 mixed 2 400 ?_;simp;refine⟨?_,?_⟩
 ·refine CI.cutTo mixed (ι:=Unit) (fun _=>[(2,.d (.v (.slice none 0 0)))]) (fun _=>[]) 65 rfl (fun B hB=>?_) (fun _=>?_)
  ·refine CI.run 9999 400 rfl ?_;simp;refine hB _ () [] ?_;constructor<;>simp
  ·refine CI.nilOwn 2 3 312 rfl rfl ?_;refine CI.run 9999 400 rfl ?_;simp;first| (refine⟨[(64,65)],?_,?_,?_,?_,?_,?_,?_⟩<;>simp[nmF,inB];done)| (refine⟨by decide+kernel,?_⟩;refine⟨[(64,65)],?_,?_,?_,?_,?_,?_,?_⟩<;>simp[nmF,inB])
 ·skip
  first| (refine⟨[(64,384)],?_,?_,?_,?_,?_,?_,?_⟩<;>simp[nmF,inB];done)| (refine⟨by decide+kernel,?_⟩;refine⟨[(64,384)],?_,?_,?_,?_,?_,?_,?_⟩<;>simp[nmF,inB])
theorem zy3 (l:List Snap)(hl:l.length≤1000000):Ct Tryz.prog 257 [lst (l.map zc6)] [] [] (.own 64) [(64,.grow 3 (l.map zc6) 312)]:=by
 cases l with
 |nil=>exact zy5
 |cons x l=>exact zrs x l (by simp at hl;omega)
attribute [simp] Tryz.ntmps316 Tryz.results316
theorem zh5 (n a b:Int):Ct Tryz.prog 316 [int n,int a,int b] [] [] (bool (decide (a≤n)&&decide (n≤b))) []:=by
 refine Ct.B Tryz.func316 mixed 9999 400 ?_;simp
 repeat' first
  | (refine sGI (fun h=>?_) (fun h=>?_)<;>simp only[h]<;>simp[h])
  | (refine sBI (fun h=>?_) (fun h=>?_)<;>simp only[h]<;>simp[h])
  | (refine⟨(show za5 _ _ from by decide+kernel),?_⟩)
  |fail
 all_goals exact fin0 (by simp[*]) rfl
attribute [simp] Tryz.ntmps214 Tryz.results214
theorem zs8 (p:Pins)(h:p.snaps.length≤9223372036854775807):Ct Tryz.prog 214 [st (zie p)] [] [] (int ((p.snaps.length:Int)-1)) []:=by
 refine Ct.B Tryz.func214 mixed 9999 400 ?_;simp;have hw:IntKind.wrap .i64 ((p.snaps.length:Int)-1)=p.snaps.length-1:=zab (by omega) (by omega);first|exact fin0 (by simp[hw]) rfl|exact zaa (by simp[hw])
attribute [simp] Tryz.ntmps258 Tryz.results258
theorem qhq (s:Snap):Ct Tryz.prog 258 [st (zc6 s)] [] [] (bool (decide (s.pins=0))) []:=by
 refine Ct.B Tryz.func258 mixed 9999 400 ?_;simp;first|exact fin0 (by simp) rfl|exact zaa (by simp)
attribute [simp] Tryz.ntmps251 Tryz.results251
theorem qfe (p:Pins)(hl:p.snaps.length≤1000000)(hn:p.next≤2147483648):Ct Tryz.prog 251 [st (zie p)] [] [] (bool (zhf p)) []:=by
 refine Ct.B Tryz.func251 mixed 9999 400 ?_;simp;refine LoopI.inv mixed rfl (ι:={k:Nat//k≤(p.snaps).length∧(za6 p.next 0 p.snaps=za6 p.next (ahP (p.snaps.take k)) (p.snaps.drop k)∧0≤ahP (p.snaps.take k)∧ahP (p.snaps.take k)≤2147483648)}) (fun k=>[(1,.ptr 64 0),(3,int (ahP (p.snaps.take k.1))),(8,lst (p.snaps.map zc6)),(9,int p.snaps.length),(10,int k.1)]) (fun k=>[(64,.cells ((zie p).map .d) 90)]) 65 (fun k=>(p.snaps).length-k.1) ⟨0,by omega,by simp⟩ [] (by constructor<;>simp) ?_;rintro⟨k,hk1,hi⟩ B hB;refine CI.run 9999 400 rfl ?_;simp;refine sBI (fun h=>?_) (fun h=>?_)
 ·have hk:k<(p.snaps).length:=by simpa using h
  obtain⟨s,hx,hr,hm,ht,hd⟩:=inL hk;have hw:=wr (k:=k) (by omega);simp only[h];simp[hr,hw];obtain⟨i1,i2,i3⟩:=hi;have wA:IntKind.wrap .i64 (ahP (p.snaps.take k)+1)=ahP (p.snaps.take k)+1:=zab (by omega) (by omega);refine CI.p (zs8 p (by omega)) Tryz.call214 9999 ?_;simp;have hsl:zhf p=(za6 p.next (ahP (p.snaps.take k)) (s::p.snaps.drop (k+1))&&rngB p.next 2147483647&&decide (p.snaps.length≤1000)):=by rw[zhf,i1,hd]
  have hlast:p.snaps.drop (k+1)=[]↔(k:Int)=p.snaps.length-1:=by rw[List.drop_eq_nil_iff];omega
  refine sBI (fun h1=>?_) (fun h1=>?_)<;>simp only[h1]<;>simp
  ·have h1':p.snaps.drop (k+1)=[]:=hlast.2 (by simpa using h1);simp[wA];refine CI.p (zh5 s.id (ahP (p.snaps.take k)+1) p.next) Tryz.call316 9999 ?_;simp;refine sGI (fun h2=>?_) (fun h2=>?_)<;>simp only[h2]<;>simp
   ·have h2':¬(ahP (p.snaps.take k)+1≤s.id∧s.id≤p.next):=by simp at h2;omega
    have e:zhf p=false:=by rw[hsl];simp[za6,h1'];omega
    first|exact fin0 (by simp[e]) rfl|exact zaa (by simp[e])
   ·skip
    refine CI.p (zh5 s.pins 0 10000) Tryz.call316 9999 ?_;simp;refine sBI (fun h3=>?_) (fun h3=>?_)<;>simp only[h3]<;>simp
    ·have h3':¬(0≤s.pins∧s.pins≤10000):=by simp at h3;omega
     have e:zhf p=false:=by rw[hsl];simp[za6,h1'];omega
     first|exact fin0 (by simp[e]) rfl|exact zaa (by simp[e])
    ·have h2':ahP (p.snaps.take k)+1≤s.id∧s.id≤p.next:=by simp at h2;omega
     have h3':0≤s.pins∧s.pins≤10000:=by simp at h3;omega
     refine hB _ ⟨k+1,by omega,by rw[ht,zje,i1,hd];simp[za6,h1',h2',h3'],by rw[ht,zje];omega,by rw[ht,zje];omega⟩ [] ?_ (by simp;omega);constructor<;>simp[hw,ht]
  ·have h1':¬p.snaps.drop (k+1)=[]:=fun e=>by rw[hlast]at e;simp[e]at h1
   simp[wA];refine CI.p (zh5 s.id (ahP (p.snaps.take k)+1) p.next) Tryz.call316 9999 ?_;simp;refine sGI (fun h2=>?_) (fun h2=>?_)<;>simp only[h2]<;>simp
   ·have h2':¬(ahP (p.snaps.take k)+1≤s.id∧s.id≤p.next):=by simp at h2;omega
    have e:zhf p=false:=by rw[hsl,za6,if_neg h1'];simp;omega
    first|exact fin0 (by simp[e]) rfl|exact zaa (by simp[e])
   ·skip
    refine CI.p (zh5 s.pins 1 10000) Tryz.call316 9999 ?_;simp;refine sBI (fun h3=>?_) (fun h3=>?_)<;>simp only[h3]<;>simp
    ·have h3':¬(1≤s.pins∧s.pins≤10000):=by simp at h3;omega
     have e:zhf p=false:=by rw[hsl,za6,if_neg h1'];simp;omega
     first|exact fin0 (by simp[e]) rfl|exact zaa (by simp[e])
    ·have h2':ahP (p.snaps.take k)+1≤s.id∧s.id≤p.next:=by simp at h2;omega
     have h3':1≤s.pins∧s.pins≤10000:=by simp at h3;omega
     refine hB _ ⟨k+1,by omega,by rw[ht,zje,i1,hd,za6,if_neg h1'];simp[h2',h3'],by rw[ht,zje];omega,by rw[ht,zje];omega⟩ [] ?_ (by simp;omega);constructor<;>simp[hw,ht]
 ·have hkl:k=(p.snaps).length:=by simp at h;omega
  subst hkl;simp only[h];simp[List.take_length,List.drop_length];obtain⟨i1,i2,i3⟩:=hi;have e:zhf p=(decide (0≤p.next)&&decide (p.next≤2147483647)&&decide ((p.snaps.length:Int)≤1000)):=by
   have e2:decide (p.snaps.length≤1000)=decide ((p.snaps.length:Int)≤1000):=decide_eq_decide.2 (by omega);rw[zhf,i1,List.drop_length,e2];simp[za6,rngB]
  refine CI.p (zh5 p.next 0 2147483647) Tryz.call316 9999 ?_;simp;refine sGI (fun h2=>?_) (fun h2=>?_)<;>simp only[h2]<;>simp
  ·first|exact fin0 (by simp[e,h2]) rfl|exact zaa (by simp[e,h2])
  ·first|exact fin0 (by simp[e,h2]) rfl|exact zaa (by simp[e,h2])
attribute [simp] Tryz.ntmps213 Tryz.results213
theorem ziy (p:Pins)(hp:OkPins p):Ct Tryz.prog 213 [st (zie p)] [] [] (st (zie (zax p))) []:=by
 refine Ct.B Tryz.func213 mixed 9999 400 ?_;simp;refine CI.p (qfe p hp.sl hp.next) Tryz.call251 9999 ?_;simp;refine sBI (fun h1=>?_) (fun h1=>?_)<;>simp only[h1]<;>simp<;>(try simp only[nT,nF,dT,dF]at h1)
 ·first|exact fin0 (by simp[zax,h1]) rfl|exact zaa (by simp[zax,h1])
 ·first|exact fin0 (by simp[zax,h1]) rfl|exact zaa (by simp[zax,h1])
abbrev curA (o:Option Snap):AV:=.tup [int ((o.map (·.id)).getD 0),lst (((o.map (·.l)).getD []).map resC),bool o.isSome]
attribute [simp] Tryz.ntmps164 Tryz.results164
theorem qv1 (p:Pins)(hp:OkPins p):Ct Tryz.prog 164 [st (zie p)] [] [] (curA (curP p)) []:=by
 refine Ct.B Tryz.func164 mixed 9999 400 ?_;simp;refine CI.p (ziy p hp) Tryz.call213 9999 ?_;simp;have hs:=zhd p;have hh:curP p=(zax p).snaps.getLast? :=rfl;rw[hh];clear hh;generalize zax p=q at hs⊢;refine CI.p (zs8 q (by omega)) Tryz.call214 9999 ?_;simp;rcases zre q.snaps with e|⟨i,s,e⟩
 ·simp[e];first|exact fin0 (by simp[e]) rfl|exact zaa (by simp[e])
 ·have e1:((q.snaps.length:Int)-1)=i.length:=by rw[e];simp
  have e2:¬(i.length:Int)<0:=by omega
  have e3:i.length<q.snaps.length:=by rw[e];simp
  have e4:q.snaps[i.length]=s:=by simp[e]
  simp[e1,e2,e3,e4];refine⟨by decide+kernel,?_⟩;first|exact fin0 (by simp[e]) rfl|exact zaa (by simp[e])
theorem zpp (l:List Snap):(l.flatMap (·.l)).map Res.key=l.flatMap fun s=>s.l.map Res.key:=by rw[List.map_flatMap]
attribute [simp] Tryz.ntmps259 Tryz.results259
theorem qau (p:Pins)(hp:OkPins p):Ct Tryz.prog 259 [st (zie p)] [] [] (lst ((zdz p).map keyC)) []:=by
 refine Ct.B Tryz.func259 mixed 9999 400 ?_;simp;refine CI.p (ziy p hp) Tryz.call213 9999 ?_;simp;have hs:=zhd p;have hq:=hp.sound.snaps;have hh:zdz p=((zax p).snaps.flatMap fun s=>s.l.map Res.key).foldl putK []:=by rw[←zpp];rfl
 rw[hh];clear hh;generalize(zax p).snaps=l at hs hq⊢;refine LoopI.nilOwn 3 2 135 rfl ?_;refine LoopI.U mixed (l) (fun k=>[(3,.own 64),(8,lst (l.map zc6)),(9,int l.length),(10,int k.1)]) (fun k=>[(64,.grow 2 (((l.take k.1).flatMap fun s=>s.l.map Res.key).map keyC) 135)]) 65 [] (by constructor<;>simp) ?_;rintro⟨k,hk1⟩ B hB;refine CI.run 9999 400 rfl ?_;simp;refine sBI (fun h=>?_) (fun h=>?_)
 ·have hk:k<(l).length:=by simpa using h
  obtain⟨s,hx,hr,hm,ht,hd⟩:=inL hk;have hw:=wr (k:=k) (by omega);simp only[h];simp[hr,hw];have h64:=(hq s hm).2;have hfl:((l.take k).flatMap fun s=>s.l.map Res.key).length≤64000:=by
   have:=zoq (l:=l.take k) fun q hm=>(hq q (List.mem_of_mem_take hm)).2;rw[←zpp,List.length_map];simp at this⊢;omega
  have hsm:(List.take k (List.map (fun a=>a.l.length) l)).sum≤64000:=by simpa[List.map_take]using hfl
  refine CI.cc [] (qaq s.l (by omega)) Tryz.call121 9999 ?_;simp;refine⟨by omega,?_⟩;refine hB _ ⟨k+1,by omega⟩ [] ?_ (by simp;omega);constructor<;>simp[hw,ht]
 ·have hkl:k=(l).length:=by simp at h;omega
  subst hkl;simp only[h];simp[List.take_length,List.drop_length];have hfl:(l.flatMap fun s=>s.l.map Res.key).length≤64000:=by
   have:=zoq (l:=l) fun q hm=>(hq q hm).2;rw[←zpp,List.length_map];omega
  refine CI.cc [64] (zzu (l.flatMap fun s=>s.l.map Res.key) (by omega)) Tryz.call293 9999 ?_;simp;refine CI.cc [64] (zlt (zks (l.flatMap fun s=>s.l.map Res.key)) (by rw[zep];omega)) Tryz.call294 9999 ?_;simp;rw[zwt];first|exact fin0 (by simp) rfl|exact zaa (by simp)
attribute [simp] Tryz.ntmps197 Tryz.results197
theorem qf5 (p:Pins)(l:List Res)(hp:OkPins p):Ct Tryz.prog 197 [st (zie p),lst (l.map resC)] [] [] (.tup [st (zie (zch p l).1),int (zch p l).2.1,int (zch p l).2.2]) []:=by
 refine Ct.B Tryz.func197 mixed 9999 400 ?_;simp;refine CI.p (ziy p hp) Tryz.call213 9999 ?_;simp;have hs:=zhd p;have hn:=hp.sound.next;have h0:=(saneP_iff.1 (zc2 p)).2.1;have hh:zch p l=zdn (zax p) l:=rfl;rw[hh];clear hh;generalize zax p=q at hs hn h0⊢;have hw:IntKind.wrap .i64 (q.next+1)=q.next+1:=zab (by omega) (by omega);refine sBI (fun h1=>?_) (fun h1=>?_)<;>simp only[h1]<;>simp<;>(try simp only[nT,nF,dT,dF]at h1)
 ·first|exact fin0 (by simp[zdn,h1]) rfl|exact zaa (by simp[zdn,h1])
 obtain⟨nx,sn⟩:=q;simp only at hs hn h0 hw h1;have hf:(sn.filter fun x=>!decide (x.pins=0)).length≤1000:=Nat.le_trans (List.length_filter_le _ _) hs;refine CI.cc [] (zy3 sn (by omega)) Tryz.call257 9999 ?_;simp;refine CI.cc [832] (qij sn (fnD 258) (fun s=>decide (s.pins=0)) (fun s _=>FnOk.of (qhq s) Tryz.call258 rfl rfl) (by omega)) Tryz.call256 9999 ?_;simp;have e:(qhd ⟨nx,sn⟩)=sn.filter fun x=>!decide (x.pins=0):=rfl;rw[←e]at hf;rw[←e];refine sBI (fun h2=>?_) (fun h2=>?_)<;>simp only[h2]<;>simp<;>(try simp only[nT,nF,dT,dF]at h2)
 ·have h2':1000≤(qhd ⟨nx,sn⟩).length:=by omega
  first|exact fin0 (by simp[zdn,h1,h2']) rfl|exact zaa (by simp[zdn,h1,h2'])
 ·have h2':¬1000≤(qhd ⟨nx,sn⟩).length:=by omega
  simp[hw];refine⟨by omega,?_⟩;first|exact fin0 (by simp[zdn,h1,h2']) rfl|exact zaa (by simp[zdn,h1,h2'])
end Go.Proofs.YtekckhepcdndcaaGreatDoor
namespace Go.Proofs.YtekckhepcdndcaaGreatDoor
open Go.AI Go.G
set_option maxRecDepth 20000
attribute [simp] Tryz.ntmps83 Tryz.results83
theorem qnr (n:Int):Ct Tryz.prog 83 [int n] [] [] (st (zt6 (newW n))) []:=by
 refine Ct.B Tryz.func83 mixed 9999 400 ?_;simp;refine CI.p (qnt n) Tryz.call123 9999 ?_;simp;first|exact fin0 (by simp[newW,newC]) rfl|exact zaa (by simp[newW,newC])
attribute [simp] Tryz.ntmps250 Tryz.results250
theorem qfc (w:Warm)(hs:OkRs w.shown):Ct Tryz.prog 250 [st (zt6 w)] [] [] (bool (zhe w)) []:=by
 refine Ct.B Tryz.func250 mixed 9999 400 ?_;simp;refine CI.p (qfh w.c) Tryz.call314 9999 ?_;simp;refine sGI (fun h1=>?_) (fun h1=>?_)<;>simp only[h1]<;>simp
 ·refine CI.p (zzv w.c) Tryz.call315 9999 ?_;simp;refine CI.p (zh6 w.shown (zf8 w.c) hs) Tryz.call86 9999 ?_;simp;refine sGI (fun h2=>?_) (fun h2=>?_)<;>simp only[h2]<;>simp
  ·refine sGI (fun h3=>?_) (fun h3=>?_)<;>simp only[h3]<;>simp
   ·refine⟨by decide+kernel,?_⟩;first|exact fin0 (by simp[zhe,h1,h2,h3]) rfl|exact zaa (by simp[zhe,h1,h2,h3])
   ·refine⟨by decide+kernel,?_⟩;first|exact fin0 (by simp[zhe,h1,h2,h3]) rfl|exact zaa (by simp[zhe,h1,h2,h3])
  ·refine⟨by decide+kernel,?_⟩;first|exact fin0 (by simp[zhe,h1,h2]) rfl|exact zaa (by simp[zhe,h1,h2])
 ·refine⟨by decide+kernel,?_⟩;first|exact fin0 (by simp[zhe,h1]) rfl|exact zaa (by simp[zhe,h1])
attribute [simp] Tryz.ntmps253 Tryz.results253
theorem qjr (w:Warm)(hs:OkRs w.shown):Ct Tryz.prog 253 [st (zt6 w)] [] [] (st (zt6 (zen w))) []:=by
 refine Ct.B Tryz.func253 mixed 9999 400 ?_;simp;refine CI.p (qfc w hs) Tryz.call250 9999 ?_;simp;refine sBI (fun h1=>?_) (fun h1=>?_)<;>simp only[h1]<;>simp<;>(try simp only[nT,nF,dT,dF]at h1)
 ·refine CI.p (qnr w.c.cap) Tryz.call83 9999 ?_;simp;first|exact fin0 (by simp[zen,h1]) rfl|exact zaa (by simp[zen,h1])
 ·first|exact fin0 (by simp[zen,h1]) rfl|exact zaa (by simp[zen,h1])
abbrev quy (w:Warm)(b:Bool):List (Nat×Blk):=[(0,.cells ((zt6 w++[bD b]).map .d) 356)]
attribute [simp] Tryz.ntmps255 Tryz.results255
theorem qov (w:Warm)(c:Cache)(hc:OkRs c.l):Ct Tryz.prog 255 [.ptr 0 0,st (zdl c)] [] (quy w false) (.tup []) (quy (znj w c).1 (znj w c).2):=by
 refine Ct.B Tryz.func255 mixed 9999 400 ?_;simp;refine CI.p (zzv c) Tryz.call315 9999 ?_;simp;refine CI.p (zh6 (zf8 c) w.shown (zvg hc)) Tryz.call86 9999 ?_;simp;refine sBI (fun h1=>?_) (fun h1=>?_)<;>simp only[h1]<;>simp<;>(try simp only[nT,nF,dT,dF]at h1)
 ·first| (refine⟨[],?_,?_,?_,?_,?_,?_,?_⟩<;>simp[nmF,inB,znj,h1];done)| (refine⟨by decide+kernel,?_⟩;refine⟨[],?_,?_,?_,?_,?_,?_,?_⟩<;>simp[nmF,inB,znj,h1])
 ·first| (refine⟨[],?_,?_,?_,?_,?_,?_,?_⟩<;>simp[nmF,inB,znj,h1];done)| (refine⟨by decide+kernel,?_⟩;refine⟨[],?_,?_,?_,?_,?_,?_,?_⟩<;>simp[nmF,inB,znj,h1])
attribute [simp] Tryz.ntmps196 Tryz.results196
theorem qo4 (w:Warm)(adds:List Res)(gone:List Key)(hs:OkRs w.shown)(hc:OkRs w.c.l)(ha:OkRs adds)(hl:adds.length≤1000)(hg:gone.length≤9223372036854775807):Ct Tryz.prog 196 [st (zt6 w),lst (adds.map resC),lst (gone.map keyC)] [] [] (.tup [st (zt6 (ze1 w adds gone).1),bool (ze1 w adds gone).2.1,int (ze1 w adds gone).2.2]) []:=by
 refine Ct.B Tryz.func196 mixed 9999 400 ?_;simp;refine CI.p (qjr w hs) Tryz.call253 9999 ?_;simp;have hh:ze1 w adds gone=zh7 (zen w) adds gone:=rfl;rw[hh];clear hh;obtain⟨h1,h2⟩:=zve hc hs;generalize zen w=q at h1 h2⊢;refine CI.p (qss q.c adds gone hl hg) Tryz.call254 9999 ?_;simp;have h3:=zvj (gone:=gone) h1 ha hl;refine sBI (fun h4=>?_) (fun h4=>?_)<;>simp only[h4]<;>simp<;>(try simp only[nT,nF,dT,dF]at h4)
 ·first|exact fin0 (by simp[zh7,h4]) rfl|exact zaa (by simp[zh7,h4])
 ·refine CI.cc [512] (qov q (zgf q.c adds gone).1 h3) Tryz.call255 9999 ?_;simp;refine⟨by decide+kernel,?_⟩;first|exact fin0 (by simp[zh7,h4]) rfl|exact zaa (by simp[zh7,h4])
end Go.Proofs.YtekckhepcdndcaaGreatDoor
namespace Go.Proofs.YtekckhepcdndcaaGreatDoor
open Go.AI Go.G
set_option maxRecDepth 20000
attribute [simp] Tryz.ntmps194 Tryz.results194
theorem qw6 (i:Nonce.Nn):Ct Tryz.prog 194 [st (nnC i)] [] [] (st (nnC (Nonce.inF i))) []:=by
 refine Ct.B Tryz.func194 mixed 9999 400 ?_;simp;refine CI.p (zsc i) Tryz.call215 9999 ?_;simp;refine sBI (fun h1=>?_) (fun h1=>?_)<;>simp only[h1]<;>simp<;>(try simp only[nT,nF,dT,dF]at h1)
 ·first|exact fin0 (by simp[Nonce.inF,h1]) rfl|exact zaa (by simp[Nonce.inF,h1])
 ·refine CI.p (zr9 i.m) Tryz.call84 9999 ?_;simp;first|exact fin0 (by simp[Nonce.inF,h1]) rfl|exact zaa (by simp[Nonce.inF,h1])
attribute [simp] Tryz.ntmps149 Tryz.results149
theorem qox (i:Nonce.Nn)(k_ n:Int):Ct Tryz.prog 149 [st (nnC i),int k_,int n] [] [] (.tup [st (nnC (Nonce.take i k_ n).1),int (Nonce.take i k_ n).2]) []:=by
 refine Ct.B Tryz.func149 mixed 9999 400 ?_;simp;refine CI.p (qw6 i) Tryz.call194 9999 ?_;simp;simp only[Nonce.take];have hb:=Nonce.inF_ok i;generalize Nonce.inF i=q at hb⊢;obtain⟨A,B,C,D,M⟩:=q;simp only[Nonce.Nn.ok]at hb;have wA:IntKind.wrap .i64 (A+1)=A+1:=zab (by omega) (by omega);have wB:IntKind.wrap .i64 (B+1)=B+1:=zab (by omega) (by omega);have wC:IntKind.wrap .i64 (C+1)=C+1:=zab (by omega) (by omega);have wD:IntKind.wrap .i64 (D+1)=D+1:=zab (by omega) (by omega);refine CI.p (zta k_) Tryz.call195 9999 ?_;simp;by_cases hk:Nonce.kindB k_=true
 ·rcases Nonce.kindB_is hk with rfl|rfl|rfl|rfl
  all_goals
   simp[hk]
  all_goals
   repeat' first
    | (refine sGI (fun h=>?_) (fun h=>?_)<;>simp only[h]<;>simp[h,wA,wB,wC,wD])
    | (refine sBI (fun h=>?_) (fun h=>?_)<;>simp only[h]<;>simp[h,wA,wB,wC,wD])
    | (refine⟨(show za5 _ _ from by decide+kernel),?_⟩)
    |fail
  all_goals
   clear wA wB wC wD;simp only[Bool.not_eq_true',Bool.not_eq_false',decide_eq_true_eq,decide_eq_false_iff_not]at*;first
    | (exfalso;omega)
    | (refine fin0 ?_ rfl;simp[Nonce.takeQ,Nonce.Nn.last,Nonce.Nn.set, *];done)
    | (refine fin0 ?_ rfl;simp_all[Nonce.takeQ,Nonce.Nn.last,Nonce.Nn.set];done)
    | (refine fin0 ?_ rfl;simp_all[Nonce.takeQ,Nonce.Nn.last,Nonce.Nn.set];split<;>first| (exfalso;omega)|simp_all)
 ·simp[hk];first|exact fin0 (by simp[Nonce.takeQ,hk]) rfl|exact zaa (by simp[Nonce.takeQ,hk])
attribute [simp] Tryz.ntmps82 Tryz.results82
theorem qh2 (m:Int):Ct Tryz.prog 82 [int m] [] [] (st (nnC (Nonce.startI m))) []:=by
 refine Ct.B Tryz.func82 mixed 9999 400 ?_;simp;refine CI.p (zr9 m) Tryz.call84 9999 ?_;simp;first|exact fin0 (by simp) rfl|exact zaa (by simp)
attribute [simp] Tryz.ntmps48 Tryz.results48
theorem zgy (l m:Int):Ct Tryz.prog 48 [int l,int m] [] [] (st (zdc (newX l m))) []:=by
 refine Ct.B Tryz.func48 mixed 9999 400 ?_;simp;refine CI.p (qh2 m) Tryz.call82 9999 ?_;simp;refine CI.p (qnr l) Tryz.call83 9999 ?_;simp;first|exact fin0 (by simp[newX,newW,newC]) rfl|exact zaa (by simp[newX,newW,newC])
attribute [simp] Tryz.ntmps247 Tryz.results247
theorem qaf (n:Int):Ct Tryz.prog 247 [int n] [] [] (bool (rngB n 2147483647)) []:=by
 refine Ct.B Tryz.func247 mixed 9999 400 ?_;simp
 repeat' first
  | (refine sGI (fun h=>?_) (fun h=>?_)<;>simp only[h]<;>simp[h])
  | (refine sBI (fun h=>?_) (fun h=>?_)<;>simp only[h]<;>simp[h])
  | (refine⟨(show za5 _ _ from by decide+kernel),?_⟩)
  |fail
 all_goals exact fin0 (by simp[*,rngB]) rfl
attribute [simp] Tryz.ntmps249 Tryz.results249
theorem zr2 (n:Int):Ct Tryz.prog 249 [int n] [] [] (bool (za2 n)) []:=by
 refine Ct.B Tryz.func249 mixed 9999 400 ?_;simp;rw[qd0]
 repeat' first
  | (refine sGI (fun h=>?_) (fun h=>?_)<;>simp only[h]<;>simp[h])
  | (refine sBI (fun h=>?_) (fun h=>?_)<;>simp only[h]<;>simp[h])
  | (refine⟨(show za5 _ _ from by decide+kernel),?_⟩)
  |fail
 all_goals exact fin0 (by simp[*]) rfl
attribute [simp] Tryz.ntmps150 Tryz.results150
theorem zwf (s:Side):Ct Tryz.prog 150 [st (zdc s)] [] [] (bool (zmo s)) []:=by
 refine Ct.B Tryz.func150 mixed 9999 400 ?_;simp;first|exact fin0 (by simp[zmo]) rfl|exact zaa (by simp[zmo])
attribute [simp] Tryz.ntmps198 Tryz.results198
theorem qfq (p:Pins)(hp:OkPins p):Ct Tryz.prog 198 [st (zie p)] [] [] (bool (zqa p)) []:=by
 refine Ct.B Tryz.func198 mixed 9999 400 ?_;simp;have hl:=ztd hp;refine CI.p (qau p hp) Tryz.call259 9999 ?_;simp;refine CI.p (zkf ⟨3,0,0,0,0,[],[],0,[],zdz p⟩ (zwm (v:=⟨[],zdz p,0,zFrame,false⟩) (by simp only;omega))) Tryz.call38 9999 ?_;simp;first|exact fin0 (by simp[zqa]) rfl|exact zaa (by simp[zqa])
attribute [simp] Tryz.ntmps252 Tryz.results252
theorem qm1 (s:Side)(h:OkX s):Ct Tryz.prog 252 [st (zdc s)] [] [] (bool (zd2 s)) []:=by
 refine Ct.B Tryz.func252 mixed 9999 400 ?_;simp;refine CI.p (qv1 s.p h.pins) Tryz.call164 9999 ?_;simp;cases hc:curP s.p with
 |none=>
  simp[hc];refine sBI (fun h1=>?_) (fun h1=>?_)<;>simp only[h1]<;>simp<;>(try simp only[nT,nF,dT,dF]at h1)
  ·first|exact fin0 (by simp[zd2,hc,h1]) rfl|exact zaa (by simp[zd2,hc,h1])
  ·first|exact fin0 (by simp[zd2,hc,h1]) rfl|exact zaa (by simp[zd2,hc,h1])
 |some c=>
  have hok:OkRs c.l:=by
   have:c∈(zax s.p).snaps:=List.mem_of_getLast? hc;exact(h.pins.sound.snaps c this).1
  simp[hc];refine sBI (fun h1=>?_) (fun h1=>?_)<;>simp only[h1]<;>simp<;>(try simp only[nT,nF,dT,dF]at h1)
  ·first|exact fin0 (by simp[zd2,hc,h1]) rfl|exact zaa (by simp[zd2,hc,h1])
  ·refine CI.p (zh6 c.l s.w.shown hok) Tryz.call86 9999 ?_;simp;first|exact fin0 (by simp[zd2,hc,h1]) rfl|exact zaa (by simp[zd2,hc,h1])
attribute [simp] Tryz.ntmps313 Tryz.results313
theorem qva (e:Errs):Ct Tryz.prog 313 [.d (.ro true [[iD e.e0],[iD e.e1],[iD e.e2],[iD e.e3]]),.d (fnD 249)] [] [] (int (if za2 e.e0=true then 0 else if za2 e.e1=true then 1 else if za2 e.e2=true then 2 else if za2 e.e3=true then 3 else-1)) []:=by
 refine Ct.B Tryz.func313 mixed 9999 400 ?_;simp;refine LoopI.unroll mixed (Plain.retC _ _ _ _ _) rfl ?_;refine CI.run 9999 400 rfl ?_;simp;refine CI.ff (FnOk.of (zr2 e.e0) Tryz.call249 rfl rfl) rfl rfl rfl 9999 ?_;simp;refine sBI (fun h1=>?_) (fun h1=>?_)<;>simp only[h1]<;>simp
 ·first|exact fin0 (by simp[h1]) rfl|exact zaa (by simp[h1])
 refine LoopI.unroll mixed (Plain.retC _ _ _ _ _) rfl ?_;refine CI.run 9999 400 rfl ?_;simp;refine CI.ff (FnOk.of (zr2 e.e1) Tryz.call249 rfl rfl) rfl rfl rfl 9999 ?_;simp;refine sBI (fun h2=>?_) (fun h2=>?_)<;>simp only[h2]<;>simp
 ·first|exact fin0 (by simp[h1,h2]) rfl|exact zaa (by simp[h1,h2])
 refine LoopI.unroll mixed (Plain.retC _ _ _ _ _) rfl ?_;refine CI.run 9999 400 rfl ?_;simp;refine CI.ff (FnOk.of (zr2 e.e2) Tryz.call249 rfl rfl) rfl rfl rfl 9999 ?_;simp;refine sBI (fun h3=>?_) (fun h3=>?_)<;>simp only[h3]<;>simp
 ·first|exact fin0 (by simp[h1,h2,h3]) rfl|exact zaa (by simp[h1,h2,h3])
 refine LoopI.unroll mixed (Plain.retC _ _ _ _ _) rfl ?_;refine CI.run 9999 400 rfl ?_;simp;refine CI.ff (FnOk.of (zr2 e.e3) Tryz.call249 rfl rfl) rfl rfl rfl 9999 ?_;simp;refine sBI (fun h4=>?_) (fun h4=>?_)<;>simp only[h4]<;>simp
 ·first|exact fin0 (by simp[h1,h2,h3,h4]) rfl|exact zaa (by simp[h1,h2,h3,h4])
 refine LoopI.unroll mixed (Plain.retC _ _ _ _ _) rfl ?_;refine CI.run 9999 400 rfl ?_;simp;first|exact fin0 (by simp[h1,h2,h3,h4]) rfl|exact zaa (by simp[h1,h2,h3,h4])
attribute [simp] Tryz.ntmps248 Tryz.results248
theorem qwg (e:Errs):Ct Tryz.prog 248 [.d (.ro true [[iD e.e0],[iD e.e1],[iD e.e2],[iD e.e3]]),.d (fnD 249)] [] [] (bool (za2 e.e0||za2 e.e1||za2 e.e2||za2 e.e3)) []:=by
 refine Ct.B Tryz.func248 mixed 9999 400 ?_;simp;refine CI.p (qva e) Tryz.call313 9999 ?_;simp;cases h0:za2 e.e0<;>cases h1:za2 e.e1<;>cases h2:za2 e.e2<;>cases h3:za2 e.e3;all_goals
  simp[h0,h1,h2,h3]
 all_goals
  first|exact fin0 (by simp[h0,h1,h2,h3]) rfl|exact zaa (by simp[h0,h1,h2,h3])
attribute [simp] Tryz.ntmps193 Tryz.results193
theorem qfb (s:Side)(h:OkX s):Ct Tryz.prog 193 [st (zdc s)] [] [] (bool (zb0 s)) []:=by
 refine Ct.B Tryz.func193 mixed 1 400 ?_;simp;refine CI.s (tm:=[(1,.d (.pro (zdc s)))]) (mm:=[]) (nx:=65) [] [64] (by constructor<;>simp) ?_;refine CI.run 9999 400 rfl ?_;simp;refine CI.p (qaf s.epoch) Tryz.call247 9999 ?_;simp;refine sGI (fun h1=>?_) (fun h1=>?_)<;>simp only[h1]<;>simp
 ·refine CI.p (qaf s.turn) Tryz.call247 9999 ?_;simp;refine sGI (fun h2=>?_) (fun h2=>?_)<;>simp only[h2]<;>simp
  ·refine CI.arr ti83 ti42 9999 ?_;simp;refine CI.p (qwg s.errs) Tryz.call248 9999 ?_;simp;refine sGI (fun h3=>?_) (fun h3=>?_)<;>simp only[h3]<;>simp
   ·refine CI.p (zsc s.inn) Tryz.call215 9999 ?_;simp;refine sGI (fun h4=>?_) (fun h4=>?_)<;>simp only[h4]<;>simp
    ·refine CI.p (qfc s.w h.shown) Tryz.call250 9999 ?_;simp;refine sGI (fun h5=>?_) (fun h5=>?_)<;>simp only[h5]<;>simp
     ·refine CI.p (qfe s.p h.sl h.next) Tryz.call251 9999 ?_;simp;refine sGI (fun h6=>?_) (fun h6=>?_)<;>simp only[h6]<;>simp
      ·refine CI.p (qfq s.p h.pins) Tryz.call198 9999 ?_;simp;refine sGI (fun h7=>?_) (fun h7=>?_)<;>simp only[h7]<;>simp
       ·refine CI.p (qm1 s h) Tryz.call252 9999 ?_;simp;first|exact fin0 (by simp[zb0,h1,h2,h3,h4,h5,h6,h7]) rfl|exact zaa (by simp[zb0,h1,h2,h3,h4,h5,h6,h7])
       ·first|exact fin0 (by simp[zb0,h7]) rfl|exact zaa (by simp[zb0,h7])
      ·first|exact fin0 (by simp[zb0,h6]) rfl|exact zaa (by simp[zb0,h6])
     ·first|exact fin0 (by simp[zb0,h5]) rfl|exact zaa (by simp[zb0,h5])
    ·first|exact fin0 (by simp[zb0,h4]) rfl|exact zaa (by simp[zb0,h4])
   ·have h3':(za2 s.errs.e0||za2 s.errs.e1||za2 s.errs.e2||za2 s.errs.e3)=true:=by
     cases hb:(za2 s.errs.e0||za2 s.errs.e1||za2 s.errs.e2||za2 s.errs.e3)with
     |true=>rfl
     |false=>simp only[Bool.or_eq_false_iff]at hb;simp[hb]at h3
    have e:zb0 s=false:=by unfold zb0;rw[h3'];simp
    first|exact fin0 (by simp[e]) rfl|exact zaa (by simp[e])
  ·first|exact fin0 (by simp[zb0,h2]) rfl|exact zaa (by simp[zb0,h2])
 ·first|exact fin0 (by simp[zb0,h1]) rfl|exact zaa (by simp[zb0,h1])
attribute [simp] Tryz.ntmps147 Tryz.results147
theorem zkr (s:Side)(h:OkX s):Ct Tryz.prog 147 [st (zdc s)] [] [] (st (zdc (soundX s))) []:=by
 refine Ct.B Tryz.func147 mixed 9999 400 ?_;simp;refine CI.p (qfb s h) Tryz.call193 9999 ?_;simp;refine sBI (fun h1=>?_) (fun h1=>?_)<;>simp only[h1]<;>simp<;>(try simp only[nT,nF,dT,dF]at h1)
 ·refine CI.p (zgy s.w.c.cap s.inn.m) Tryz.call48 9999 ?_;simp;first|exact fin0 (by simp[soundX,h1]) rfl|exact zaa (by simp[soundX,h1])
 ·first|exact fin0 (by simp[soundX,h1]) rfl|exact zaa (by simp[soundX,h1])
attribute [simp] Tryz.ntmps199 Tryz.results199
theorem zi4 (s:Side)(f:G.Frame)(h:OkX s)(ht:s.turn≤2147483647)(ht0:0≤s.turn):Ct Tryz.prog 199 [st (zdc s),st (zai f)] [] [] (.tup [st (zdc (zhy s)),st (zai {f with turn:=s.turn+1,held:=zdz s.p})]) []:=by
 refine Ct.B Tryz.func199 mixed 9999 400 ?_;simp;have hw:IntKind.wrap .i64 (s.turn+1)=s.turn+1:=zab (by omega) (by omega);simp[hw];refine CI.p (qau s.p h.pins) Tryz.call259 9999 ?_;simp;refine⟨by decide+kernel,?_⟩;refine⟨by decide+kernel,?_⟩;first|exact fin0 (by simp[zhy]) rfl|exact zaa (by simp[zhy])
attribute [simp] Tryz.ntmps152 Tryz.results152
theorem qwj (s:Side)(f:G.Frame)(h:OkX s)(ht:s.turn≤2147483647)(ht0:0≤s.turn)(hk:f.kind=0∨f.kind=1∨f.kind=2∨f.kind=3):Ct Tryz.prog 152 [st (zdc s),st (zai f)] [] [] (.tup [st (zdc (ackX s f).1),lst ((ackX s f).2.map zai)]) []:=by
 refine Ct.B Tryz.func152 mixed 9999 400 ?_;simp;rcases hk with hk|hk|hk|hk
 all_goals
  simp[hk]
 ·refine CI.p (zi4 s ⟨2,f.epoch,f.kind,f.nonce,0,[],[],s.errs.e0,[],[]⟩ h ht ht0) Tryz.call199 9999 ?_ (ha:=by simp[hk]);simp[hk];refine⟨by decide+kernel,?_⟩;refine⟨by decide+kernel,?_⟩;first|exact fin0 (by simp[ackX,Errs.get,hk]) rfl|exact zaa (by simp[ackX,Errs.get,hk])
 ·refine CI.p (zi4 s ⟨2,f.epoch,f.kind,f.nonce,0,[],[],s.errs.e1,[],[]⟩ h ht ht0) Tryz.call199 9999 ?_ (ha:=by simp[hk]);simp[hk];refine⟨by decide+kernel,?_⟩;refine⟨by decide+kernel,?_⟩;first|exact fin0 (by simp[ackX,Errs.get,hk]) rfl|exact zaa (by simp[ackX,Errs.get,hk])
 ·refine CI.p (zi4 s ⟨2,f.epoch,f.kind,f.nonce,0,[],[],s.errs.e2,[],[]⟩ h ht ht0) Tryz.call199 9999 ?_ (ha:=by simp[hk]);simp[hk];refine⟨by decide+kernel,?_⟩;refine⟨by decide+kernel,?_⟩;first|exact fin0 (by simp[ackX,Errs.get,hk]) rfl|exact zaa (by simp[ackX,Errs.get,hk])
 ·refine CI.p (zi4 s ⟨2,f.epoch,f.kind,f.nonce,0,[],[],s.errs.e3,[],[]⟩ h ht ht0) Tryz.call199 9999 ?_ (ha:=by simp[hk]);simp[hk];refine⟨by decide+kernel,?_⟩;refine⟨by decide+kernel,?_⟩;first|exact fin0 (by simp[ackX,Errs.get,hk]) rfl|exact zaa (by simp[ackX,Errs.get,hk])
attribute [simp] Tryz.ntmps148 Tryz.results148
theorem qfx (s:Side)(f:G.Frame)(hf:OkFrame f):Ct Tryz.prog 148 [st (zdc s),st (zai f)] [] [] (int (zbs s f)) []:=by
 refine Ct.B Tryz.func148 mixed 9999 400 ?_;simp;refine sBI (fun h1=>?_) (fun h1=>?_)<;>simp only[h1]<;>simp<;>(try simp only[nT,nF,dT,dF]at h1)
 ·first|exact fin0 (by simp[zbs,h1]) rfl|exact zaa (by simp[zbs,h1])
 refine CI.p (zkf f hf) Tryz.call38 9999 ?_;simp;refine sBI (fun h2=>?_) (fun h2=>?_)<;>simp only[h2]<;>simp<;>(try simp only[nT,nF,dT,dF]at h2)
 ·first|exact fin0 (by simp[zbs,h1,h2]) rfl|exact zaa (by simp[zbs,h1,h2])
 refine sBI (fun h3=>?_) (fun h3=>?_)<;>simp only[h3]<;>simp<;>(try simp only[nT,nF,dT,dF]at h3)
 ·first|exact fin0 (by simp[zbs,h1,h2,h3]) rfl|exact zaa (by simp[zbs,h1,h2,h3])
 refine sBI (fun h4=>?_) (fun h4=>?_)<;>simp only[h4]<;>simp<;>(try simp only[nT,nF,dT,dF]at h4)
 ·first|exact fin0 (by simp[zbs,h1,h2,h3,h4]) rfl|exact zaa (by simp[zbs,h1,h2,h3,h4])
 ·first|exact fin0 (by simp[zbs,h1,h2,h3,h4]) rfl|exact zaa (by simp[zbs,h1,h2,h3,h4])
attribute [simp] Tryz.ntmps156 Tryz.results156
theorem qiq (s:Side)(ep:Int)(h:OkX s):Ct Tryz.prog 156 [st (zdc s),int ep] [] [] (.tup [st (zdc (zay s ep).1),lst ((zay s ep).2.1.map zai),int (zay s ep).2.2]) []:=by
 refine Ct.B Tryz.func156 mixed 9999 400 ?_;simp;refine CI.p (zkr s h) Tryz.call147 9999 ?_;simp;have hh:zay s ep=zcw (soundX s) ep:=rfl;rw[hh];clear hh;have ho:=h.sound;have ht:=zxi (zfe s);generalize soundX s=q at ho ht⊢;refine sGI (fun h1=>?_) (fun h1=>?_)<;>simp only[h1]<;>simp
 ·have h1':ep≤q.epoch∨2147483647<ep:=.inl (by simpa using h1);first|exact fin0 (by simp[zcw,h1']) rfl|exact zaa (by simp[zcw,h1'])
 refine sBI (fun h2=>?_) (fun h2=>?_)<;>simp only[h2]<;>simp
 ·have h1':ep≤q.epoch∨2147483647<ep:=.inr (by simpa using h2);first|exact fin0 (by simp[zcw,h1']) rfl|exact zaa (by simp[zcw,h1'])
 have h1':¬(ep≤q.epoch∨2147483647<ep):=by simp at h1 h2;omega
 refine CI.p (zwf q) Tryz.call150 9999 ?_;simp;refine sBI (fun h3=>?_) (fun h3=>?_)<;>simp only[h3]<;>simp<;>(try simp only[nT,nF,dT,dF]at h3)
 ·first|exact fin0 (by simp[zcw,h1',h3]) rfl|exact zaa (by simp[zcw,h1',h3])
 refine CI.p (qh2 q.inn.m) Tryz.call82 9999 ?_;simp;refine CI.p (qg8 q.w.c.l (by have:=ho.cl;omega)) Tryz.call204 9999 ?_;simp;refine CI.p (zi4 {q with epoch:=ep,up:=true,inn:=Nonce.startI q.inn.m,errs:=⟨0,0,0,0⟩} ⟨3,ep,0,0,0,[],[],0,[],[]⟩ (.mk' ho.c ho.cl ho.shown ho.pins) ht.2 ht.1) Tryz.call199 9999 ?_;simp;refine⟨by decide+kernel,?_⟩;first|exact fin0 (by simp[zcw,h1',h3,zln,qa8,zhy]) rfl|exact zaa (by simp[zcw,h1',h3,zln,qa8,zhy])
attribute [simp] Tryz.ntmps151 Tryz.results151
theorem qtj (s:Side)(f:G.Frame)(h:OkX s)(hf:OkFrame f)(hl:f.adds.length≤1000)(hk:f.kind=0∨f.kind=1∨f.kind=2∨f.kind=3):Ct Tryz.prog 151 [st (zdc s),st (zai f)] [] [] (.tup [st (zdc (zf0 s f).1),int (zf0 s f).2]) []:=by
 refine Ct.B Tryz.func151 mixed 9999 400 ?_;simp;refine CI.p (qo4 s.w f.adds f.gone h.shown h.c hf.adds hl hf.gone) Tryz.call196 9999 ?_;simp;obtain⟨o1,o2⟩:=qac (gone:=f.gone) h.c h.shown hf.adds hl;obtain⟨o3,o4⟩:=zuh s.w f.adds f.gone;unfold zf0;dsimp only;generalize ze1 s.w f.adds f.gone=W at o1 o2 o3 o4⊢;obtain⟨w',ch,why⟩:=W;simp only at o1 o2 o3 o4⊢;cases ch with
 |false=>
  simp;refine CI.p (qfq s.p h.pins) Tryz.call198 9999 ?_;simp;refine sBI (fun h1=>?_) (fun h1=>?_)<;>simp only[h1]<;>simp<;>(try simp only[nT,nF,dT,dF]at h1)
  ·rcases hk with hk|hk|hk|hk
   all_goals
    simp[hk]
   all_goals
    first|exact fin0 (by simp[h1,hk,Errs.set]) rfl|exact zaa (by simp[h1,hk,Errs.set])
  ·rcases hk with hk|hk|hk|hk
   all_goals
    simp[hk]
   all_goals
    refine⟨by decide+kernel,?_⟩
   all_goals
    first|exact fin0 (by simp[h1,hk,Errs.set]) rfl|exact zaa (by simp[h1,hk,Errs.set])
 |true=>
  simp;refine CI.p (qf5 s.p w'.shown h.pins) Tryz.call197 9999 ?_;simp;have op:=zq7 h.pins o2 o4;refine sBI (fun h0=>?_) (fun h0=>?_)<;>simp only[h0]<;>simp<;>(try simp only[nT,nF,dT,dF]at h0)
  ·first|exact fin0 (by simp[h0]) rfl|exact zaa (by simp[h0])
  refine CI.p (qfq (zch s.p w'.shown).1 op) Tryz.call198 9999 ?_;simp;refine sBI (fun h1=>?_) (fun h1=>?_)<;>simp only[h1]<;>simp<;>(try simp only[nT,nF,dT,dF]at h1)
  ·rcases hk with hk|hk|hk|hk
   all_goals
    simp[hk]
   all_goals
    first|exact fin0 (by simp[h0,h1,hk,Errs.set]) rfl|exact zaa (by simp[h0,h1,hk,Errs.set])
  ·rcases hk with hk|hk|hk|hk
   all_goals
    simp[hk]
   all_goals
    refine⟨by decide+kernel,?_⟩
   all_goals
    first|exact fin0 (by simp[h0,h1,hk,Errs.set]) rfl|exact zaa (by simp[h0,h1,hk,Errs.set])
attribute [simp] Tryz.ntmps111 Tryz.results111
theorem qpj (s:Side)(f:G.Frame)(h:OkX s)(hf:OkFrame f):Ct Tryz.prog 111 [st (zdc s),st (zai f)] [] [] (.tup [st (zdc (zh0 s f).1),lst ((zh0 s f).2.1.map zai),int (zh0 s f).2.2]) []:=by
 refine Ct.B Tryz.func111 mixed 9999 400 ?_;simp;refine CI.p (zkr s h) Tryz.call147 9999 ?_;simp;have hh:zh0 s f=zgs (soundX s) f:=rfl;rw[hh];clear hh;have ho:=h.sound;have ht:=zxi (zfe s);generalize soundX s=q at ho ht⊢;refine CI.p (qfx q f hf) Tryz.call148 9999 ?_;simp;refine sBI (fun h1=>?_) (fun h1=>?_)<;>simp only[h1]<;>simp<;>(try simp only[nT,nF,dT,dF]at h1)
 ·first|exact fin0 (by simp[zgs,h1]) rfl|exact zaa (by simp[zgs,h1])
 have F:=zic h1;have hk:=zu1 F;have hl:=(zcm (frameE_zero.1 F).small).1;refine CI.p (qox q.inn f.kind f.nonce) Tryz.call149 9999 ?_;simp;refine sBI (fun h2=>?_) (fun h2=>?_)<;>simp only[h2]<;>simp<;>(try simp only[nT,nF,dT,dF]at h2)
 ·refine CI.p (zwf q) Tryz.call150 9999 ?_;simp;refine sBI (fun h3=>?_) (fun h3=>?_)<;>simp only[h3]<;>simp<;>(try simp only[nT,nF,dT,dF]at h3)
  ·first|exact fin0 (by simp[zgs,h1,h2,h3]) rfl|exact zaa (by simp[zgs,h1,h2,h3])
  refine CI.p (qtj q f ho hf (by omega) hk) Tryz.call151 9999 ?_;simp;have hos:=ho.step hf.adds (show f.adds.length≤1000 by omega);have htu:=qb1 q f;refine sBI (fun h4=>?_) (fun h4=>?_)<;>simp only[h4]<;>simp<;>(try simp only[nT,nF,dT,dF]at h4)
  ·first|exact fin0 (by simp[zgs,h1,h2,h3,h4]) rfl|exact zaa (by simp[zgs,h1,h2,h3,h4])
  refine CI.p (zwf q) Tryz.call150 9999 ?_ (ha:=by simp[h3]);simp[h3];refine CI.p (qwj {(zf0 q f).1 with inn:=(Nonce.take q.inn f.kind f.nonce).1} f (.mk' hos.c hos.cl hos.shown hos.pins) (by simp only[htu];exact ht.2) (by simp only[htu];exact ht.1) hk) Tryz.call152 9999 ?_;simp;first|exact fin0 (by simp[zgs,h1,h2,h3,h4]) rfl|exact zaa (by simp[zgs,h1,h2,h3,h4])
 ·refine sBI (fun h5=>?_) (fun h5=>?_)<;>simp only[h5]<;>simp<;>(try simp only[nT,nF,dT,dF]at h5)
  ·refine CI.p (zwf q) Tryz.call150 9999 ?_;simp;refine sBI (fun h3=>?_) (fun h3=>?_)<;>simp only[h3]<;>simp<;>(try simp only[nT,nF,dT,dF]at h3)
   ·first|exact fin0 (by simp[zgs,h1,h2,h3,h5]) rfl|exact zaa (by simp[zgs,h1,h2,h3,h5])
   refine CI.p (qwj q f ho ht.2 ht.1 hk) Tryz.call152 9999 ?_;simp;first|exact fin0 (by simp[zgs,h1,h2,h3,h5]) rfl|exact zaa (by simp[zgs,h1,h2,h3,h5])
  ·first|exact fin0 (by simp[zgs,h1,h2,h5]) rfl|exact zaa (by simp[zgs,h1,h2,h5])
attribute [simp] Tryz.ntmps120 Tryz.results120
theorem qpk (s:Side)(h:OkX s):Ct Tryz.prog 120 [st (zdc s)] [] [] (.tup [lst ((((zkt s).map (·.l)).getD []).map resC),bool (zkt s).isSome]) []:=by
 refine Ct.B Tryz.func120 mixed 9999 400 ?_;simp;refine CI.p (zkr s h) Tryz.call147 9999 ?_;simp;have hh:zkt s=curP (soundX s).p:=rfl;rw[hh];refine CI.p (qv1 (soundX s).p h.sound.pins) Tryz.call164 9999 ?_;simp;first|exact fin0 (by simp) rfl|exact zaa (by simp)
end Go.Proofs.YtekckhepcdndcaaGreatDoor
namespace Go.Proofs.YtekckhepcdndcaaGreatDoor
open Go.AI Go.G
set_option maxRecDepth 20000
attribute [simp] Tryz.ntmps51 Tryz.results51
theorem zun (s:Sess)(p:Store)(hs:OkSess s)(hl:s.v.have_.length≤1000000)(hpl:p.hist.length≤1000000):Ct Tryz.prog 51 [st (zfj s),st (zbf p)] [] [] (bool (ziz s p)) []:=by
 refine Ct.B Tryz.func51 mixed 9999 400 ?_;simp;refine CI.p (zsb s hs hl) Tryz.call85 9999 ?_;simp;have ho:=(zuj hs).v.have_;have hh:ziz s p=((zbg s).greeted&& !(zbg s).v.open_&&decide ((zbg s).v.have_=nowL p)):=rfl;rw[hh];clear hh;generalize zbg s=q at ho⊢;refine CI.p (zsu p hpl) Tryz.call24 9999 ?_;simp;refine sGI (fun h1=>?_) (fun h1=>?_)<;>simp only[h1]<;>simp
 ·refine sGI (fun h2=>?_) (fun h2=>?_)<;>simp only[h2]<;>simp
  ·refine CI.p (zh6 q.v.have_ (nowL p) ho) Tryz.call86 9999 ?_ (ha:=by simp[nowL]);simp[nowL];first|exact fin0 (by simp[h1,h2]) rfl|exact zaa (by simp[h1,h2])
  ·first|exact fin0 (by simp[h1,h2]) rfl|exact zaa (by simp[h1,h2])
 ·first|exact fin0 (by simp[h1]) rfl|exact zaa (by simp[h1])
end Go.Proofs.YtekckhepcdndcaaGreatDoor
