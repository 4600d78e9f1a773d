/-
  LAYERS 16 to 20: the walks of caches, of pins, of what is warm, of sidecars, of what is settled.
-/
import Derived.Test.YtegplpagkajolaaGreatDoorWe
import Derived.Test.YtegplpagkajolaaGreatDoorPs
import Derived.Defers
import Derived.Recover
import Derived.Tactics
import Derived.Tactics2
import Derived.WalkLawsBesides
import Derived.Test.YtegplpagkajolaaGreatDoorWf
import Derived.Test.YtegplpagkajolaaGreatDoorFd
import Derived.Test.YtegplpagkajolaaGreatDoorWh
set_option linter.unusedSimpArgs false
set_option linter.unusedVariables false
set_option maxRecDepth 100000
set_option maxHeartbeats 8000000
namespace Go.Proofs.YtegplpagkajolaaGreatDoor
open Go.AI Go.G Tryz
attribute [simp] ntmps326 results326 ntmps327 results327 ntmps161 results161 ntmps109 results109 ntmps250 results250 ntmps249 results249 ntmps188 results188 ntmps251 results251 ntmps189 results189 ntmps369 results369 ntmps294 results294
abbrev wY (n:Int):Value:=.iface 418 (.agg #[.int .i64 n])
theorem Xs (w:World)(v:Value):(Instr.typeAssert (.iface 418 v) 20 418 false).run prog w=.ok v w:=by kernel_rfl
theorem zhn (w:World)(n:Int):(Instr.field 418 (.agg #[.int .i64 n]) 0).run prog w=.ok (.int .i64 n) w:=by kernel_rfl
theorem ziN (p:Addr)(w:World):
  CallsD prog 325 #[.pointer (some p)] .returning w fun e u' w'=>e=.returned (.tuple #[])/\u'=.returning/\w'=w:=by
 refine callsD_of_wpS func325 rfl fun c₀ cs hu=>?_;apply wpS_seq;apply wpS_region;simp[wpOpsS,go_sem,recoverD,hu,ntmps325,Exit.thenS];apply wpS_seq;apply wpS_region;simp[wpOpsS,go_sem,recoverD,hu,ntmps325,Exit.thenS];refine wpS_cond (t:=false) (by simp[Act.eval,Array.replicate]) ?_;simp only[oM,gY];refine wpS_of_wp (wp_skip ?_);cases c₀;simp_all[bodyPostS,results,results325]
theorem ziM (p:Addr)(x:Value)(n:Int)(w:World)(hc:w.cell? p=some x)(hz:w.frozen? p=false):
  CallsD prog 325 #[.pointer (some p)] (.panicking (EK (wY n))) w fun e u' w'=>
   e=.returned (.tuple #[])/\u'=.panicking [{v:=wY n,recovered:=true}]/\w'=w.setCell p (.int .i64 n):=by
 refine callsD_of_wpS func325 rfl fun c₀ cs hu=>?_;apply wpS_seq;apply wpS_region;simp[wpOpsS,go_sem,recoverD,hu,ntmps325,Exit.thenS];apply wpS_seq;apply wpS_region;simp[wpOpsS,go_sem,recoverD,hu,ntmps325,Exit.thenS];refine wpS_cond (t:=true) (by simp[Act.eval,Array.replicate]) ?_;simp only[eA];apply wpS_region;simp[wpOpsS,go_sem,Xs,zhn,hc,hz,bodyPostS,results,results325]
theorem zeL (n:Int)(h:¬n=0)(w:World):Calls prog 326 #[.int .i64 n] w fun e w'=>e=.panicked (EK (wY n))/\w'=w:=by
 go_enter func326,ntmps326
 go_wp2
 exact⟨rfl,rfl,rfl⟩
theorem ziL (g:FuncId)(xs:Array Value)(w:World)(R:Ending->World->Prop)(hen:Enters prog g)(S:Int->World->Prop)
  (hdo:Calls prog g xs (w.alloc (.cells #[.int .i64 0] 36)) fun e w'=>∃n,S n w'/\(∃x,w'.cell? ⟨w.heap.size,0,none⟩=some x)/\w'.frozen? ⟨w.heap.size,0,none⟩=false/\((n=0/\∃v,e=.returned v)\/e=.panicked (EK (wY n))))
  (hR:∀n w',S n w'->R (.returned (.int .i64 n)) (w'.setCell ⟨w.heap.size,0,none⟩ (.int .i64 n))):Calls prog 248 #[.func (.func g) #[] xs] w R:=by
 have hmf:∀(fn:Fn) (first cap:Array Value) (w:World),(Instr.makeFunc fn first cap).run prog w=.ok (.func fn first cap) w:=fun _ _ _ _=>rfl
 go_enter_defers func248,ntmps248
 refine wp_seq (wp_region ?_);simp[wpOps,go_sem,Oper.wp,Exit.then];refine .inl ?_;refine wp_seq (wp_region ?_);simp[wpOps,go_sem,Oper.wp,Exit.then,hmf];refine .inl (.inl ?_);refine wp_seq (wp_region ?_);simp[wpOps,go_sem,Oper.wp,Exit.then,invoke];refine .inl (.inl ?_);rw[hen];simp only[Oper.upon];refine hdo.mono fun e w' ⟨n,h1,⟨x,h2⟩,h3,h4⟩=>?_;rcases h4 with⟨rfl,v,rfl⟩|rfl
 ·refine wp_seq (wp_region ?_);simp[wpOps,go_sem,Oper.wp,Exit.then,h2,h3];refine .inl (wp_ret ?_);refine leaves_cons (f:=325) (args:=#[.pointer (some ⟨w.heap.size,0,none⟩)]) (by simp) (by simp[go_sem]) ?_;refine(ziN ⟨w.heap.size,0,none⟩ _).mono ?_;rintro e u' w'' ⟨rfl,rfl,rfl⟩;simp[Leaves,settle,results,results248,go_sem,h2];exact hR 0 w' h1
 ·refine leaves_cons (f:=325) (args:=#[.pointer (some ⟨w.heap.size,0,none⟩)]) (by simp) (by simp[go_sem]) ?_;refine(ziM ⟨w.heap.size,0,none⟩ x n _ h2 h3).mono ?_;rintro e u' w'' ⟨rfl,rfl,rfl⟩;simp[Leaves,settle,results,results248,go_sem,h2];exact hR n w' h1
theorem Sc {fin:Value->Ending}{g:FuncId}{args:List AV}{mr m m':List (Nat×bC)}{res:AV}(n:Int)(hen:Enters prog g)(hct:NZ (fun _ _=>True) fin prog g args mr m res m')(hf:∀v,(n=0/\fin v=.returned v)\/fin v=.panicked (EK (wY n))):
  Ct prog 248 [.fn (.func g) [] args] mr m (int n) m':=by
 intro σ I w vs hib hl hv hrm hfree;obtain⟨v,rfl⟩:∃v,vs=[v]:=by
  match vs,hl with
  |[v],_=>exact⟨v,rfl⟩
 have h0:=hv 0 _ v rfl rfl;cases h0 with
 | @fn _ _ _ xs ys hx hy h1 h2=>
   obtain rfl:xs=[]:=jL (by simpa using hx);refine ziL g ys.toArray w _ hen (fun k w'=>k=n/\∃σ' I',fK σ I (w.alloc (.cells #[.int .i64 0] 36)) (bE (mr++m)) 64 σ' I' w' (bE (mr++m'))) ?_ ?_
   ·have hold:∀k,k<w.heap.size->(w.alloc (.cells #[.int .i64 0] 36)).heap[k]? =w.heap[k]? :=fun k hk=>xE w _ hk;refine(hct σ I _ ys trivial (fun k hk=>by have:=hib k hk;simp;omega) hy (fun i c x p1 p2=>(h2 i c x p1 p2).mono (fun k hk=>hold k (hib k hk)) (fun _ h=>h) (fun _ _ h=>h)) (hrm.Lr (by simp) fun k hk=>hold k ?_) hfree).mono fun e w' ⟨v,σ',I',he,hp,_⟩=>?_
    ·rcases hk with hk|⟨b,q,y,q1,q2,q3⟩
     ·exact hib k hk
     ·obtain⟨y',q4,_,q5⟩:=hrm.bQ b q q1;rw[q2]at q4;cases q4;exact(q5 k q3).1
    ·obtain⟨_,p2,p3⟩:=Hu (v:=undef) hrm hib hp;exact⟨n,⟨rfl,σ',I',hp⟩,⟨_,p2⟩,p3,(hf v).imp (fun⟨a,b⟩=>⟨a,v,he.trans b⟩) he.trans⟩
   ·rintro k w' ⟨rfl,σ',I',hp⟩;exact⟨_,σ',I',rfl,(Hu hrm hib hp).1,.d (.v _)⟩
theorem Sb {g:FuncId}{args:List AV}{mr m m':List (Nat×bC)}{res:AV}(hen:Enters prog g)(hct:Ct prog g args mr m res m'):Ct prog 248 [.fn (.func g) [] args] mr m (int 0) m':=Sc 0 hen hct.F fun _=>.inl ⟨rfl,rfl⟩
theorem Sa {g:FuncId}{args:List AV}{mr m m':List (Nat×bC)}{n:Int}(hen:Enters prog g)(hct:tR prog g args mr m (wY n) m'):Ct prog 248 [.fn (.func g) [] args] mr m (int n) m':=Sc n hen hct fun _=>.inr rfl
theorem XH (n:Int)(h:¬n=0):tR prog 326 [int n] [] [] (wY n) []:=by
 intro σ I w vs _ hib hl hv hrm hfree;obtain⟨v,rfl⟩:∃v,vs=[v]:=by
  match vs,hl with
  |[v],_=>exact⟨v,rfl⟩
 have h0:=hv 0 _ v rfl rfl;cases h0 with
 |d h0=>cases h0 with
  |v=>
   refine(zeL n h w).mono fun e w' ⟨he,hw⟩=>?_;subst hw;exact⟨undef,σ,I,he,⟨rfl,rfl,sP.refl _,cM _,fun _ _ h=>h,fun b h1 h2=>absurd h1 h2,fun _ h=>h,hib,fun _ h=>.inl h,fun _ _ _=>rfl,hrm,fun b k h=>by simp[bE]at h,fun _ h=>.inl h⟩,.any _⟩
theorem IS :Ct prog 326 [int 0] [] [] (.bI []) []:=by
 refine Ct.B func326 ?_;simp;exact aB (by simp) rfl
theorem Cc (n:Int):Ct prog 327 [bool true,int n] [] [] (int 0) []:=by
 refine Ct.B func327 ?_;simp;exact aB (by simp) rfl
theorem Vl (n:Int):Ct prog 327 [bool false,int n] [] [] (int n) []:=by
 refine Ct.B func327 ?_;simp;exact aB (by simp) rfl
theorem Sk (n:Int):Ct prog 161 [int n] [] [] (int (nX n)) []:=by
 refine Ct.B func161 ?_;simp;have e:=Sf n;exact aB (by simp[e]) rfl
theorem Le (n:Int):Ct prog 109 [int n] [] [] (st (pK (vC n))) []:=by
 refine Ct.B func109 ?_;simp;refine CI.p (Sk n) ?_;simp;exact aB (by simp[vC]) rfl
theorem Lq (c:Cache)(l:List aA)(h:kB c.cap l=0):Ct prog 250 [st (pK c),aC (l.map aK)] [] [] (.bI []) []:=by
 refine Ct.B func250 ?_;simp;obtain⟨h1,h2,h3⟩:=IW.1 h;have hl:=rW h1;refine CI.p (K6 l) ?_;simp;refine CI.p IS ?_ (ha:=by simp[h1]);simp[h1];refine CI.p (Cc 8) ?_ (ha:=by simp[h2]);simp[h2];refine CI.p IS ?_;simp;refine CI.p (VQ l (iC h1) (by omega)) ?_;simp;refine CI.p IS ?_ (ha:=by simp[h3]);simp[h3];exact aB (by simp) rfl
theorem zeW (c:Cache)(l:List aA)(h:¬fF l=0):tR prog 250 [st (pK c),aC (l.map aK)] [] [] (wY (fF l)) []:=by
 refine tR.B func250 mixed 99 400 ?_;simp;refine CI.p (K6 l) ?_;simp;refine CI.up [] (XH (fF l) h) call326 ?_;refine⟨rfl,?_⟩;constructor<;>simp[aV,aW]
theorem zeZ (c:Cache)(l:List aA)(h1:fF l=0)(h2:¬(l.length:Int)<=c.cap):tR prog 250 [st (pK c),aC (l.map aK)] [] [] (wY 8) []:=by
 refine tR.B func250 mixed 99 400 ?_;simp;have hl:=rW h1;refine CI.p (K6 l) ?_;simp;refine CI.p IS ?_ (ha:=by simp[h1]);simp[h1];refine CI.p (Vl 8) ?_ (ha:=by simp[h2]);simp[h2];refine CI.up [] (XH 8 (by decide)) call326 ?_;refine⟨rfl,?_⟩;constructor<;>simp[aV,aW]
theorem zeX (c:Cache)(l:List aA)(h1:fF l=0)(h2:(l.length:Int)<=c.cap)(h3:¬iX l=0):tR prog 250 [st (pK c),aC (l.map aK)] [] [] (wY (iX l)) []:=by
 refine tR.B func250 mixed 99 400 ?_;simp;have hl:=rW h1;refine CI.p (K6 l) ?_;simp;refine CI.p IS ?_ (ha:=by simp[h1]);simp[h1];refine CI.p (Cc 8) ?_ (ha:=by simp[h2]);simp[h2];refine CI.p IS ?_;simp;refine CI.p (VQ l (iC h1) (by omega)) ?_;simp;refine CI.up [] (XH (iX l) h3) call326 ?_;refine⟨rfl,?_⟩;constructor<;>simp[aV,aW]
theorem Lp (c:Cache)(l:List aA)(h:¬kB c.cap l=0):tR prog 250 [st (pK c),aC (l.map aK)] [] [] (wY (kB c.cap l)) []:=by
 by_cases h1:fF l=0
 ·by_cases h2:(l.length:Int)<=c.cap
  ·have e:kB c.cap l=iX l:=by simp[kB,h1,show¬c.cap<l.length by omega]
   rw[e]at h⊢;exact zeX c l h1 h2 h
  ·have e:kB c.cap l=8:=by simp[kB,h1,show c.cap<l.length by omega]
   rw[e];exact zeZ c l h1 h2
 ·have e:kB c.cap l=fF l:=by simp[kB,h1]
  rw[e];exact zeW c l h1
abbrev S3 (c:Cache):Nat×bC:=(0,.cells ((pK c).map .d) 54)
theorem zby (c:Cache)(h:kB c.cap c.l=0):Ct prog 249 [.ptr 0 0] [S3 c] [] (.bI []) []:=by
 refine Ct.B func249 ?_;simp;refine CI.p (Lq c c.l h) ?_;simp;exact⟨[],by constructor<;>simp[aV,aW]⟩
theorem zbw (c:Cache)(h:¬kB c.cap c.l=0):tR prog 249 [.ptr 0 0] [S3 c] [] (wY (kB c.cap c.l)) []:=by
 refine tR.B func249 mixed 99 400 ?_;simp;refine CI.up [] (Lp c c.l h) call250 ?_;refine⟨rfl,?_⟩;constructor<;>simp[aV,aW]
theorem zbx (c:Cache):Ct prog 248 [.fn (.func 249) [] [.ptr 0 0]] [S3 c] [] (int (kB c.cap c.l)) []:=by
 by_cases h:kB c.cap c.l=0
 ·rw[h];exact Sb call249 (zby c h)
 ·exact Sa call249 (zbw c h)
theorem Fu (c:Cache):Ct prog 188 [st (pK c)] [] [] (bool (s7 c)) []:=by
 refine Ct.B func188 ?_;simp;refine CI.p (Sk c.cap) ?_;simp;refine bX (fun h1=>?_) (fun h1=>?_)<;>simp only[h1]<;>simp<;>(try simp only[nT,nF,dT,dF]at h1)
 ·refine CI.cc [64] (zbx c) ?_;simp;refine⟨by decide+kernel,?_⟩;have e:s7 c=decide (kB c.cap c.l=0):=by unfold s7;rw[tS h1,tU]
  exact aB (by simp[e]) rfl
 ·refine⟨by decide+kernel,?_⟩;have e:s7 c=false:=by unfold s7;rw[decide_eq_false h1,Bool.false_and]
  exact aB (by simp[e]) rfl
theorem Dv (c:Cache):Ct prog 251 [st (pK c)] [] [] (st (pK (rA c))) []:=by
 refine Ct.B func251 ?_;simp;refine CI.p (Fu c) ?_;simp;refine aJ (fun h1=>?_) (fun h1=>?_)<;>simp only[h1]<;>simp<;>(try simp only[nT,nF,dT,dF]at h1)
 ·refine CI.p (Le c.cap) ?_;simp;first|exact aB (by simp[rA,h1]) rfl|exact cK (by simp[rA,h1])
 ·first|exact aB (by simp[rA,h1]) rfl|exact cK (by simp[rA,h1])
theorem Dw (c:Cache):cW (rA c).l/\(rA c).l.length<=64:=by
 have h:=(u0.1 (VI c)).2.1;exact⟨iC h,rW h⟩
theorem Eh (c:Cache):Ct prog 189 [st (pK c)] [] [] (aC ((rZ c).map aK)) []:=by
 refine Ct.B func189 ?_;simp;refine CI.p (Dv c) ?_;simp;obtain⟨h1,h2⟩:=Dw c;refine CI.p (II (rA c).l h1 (by omega)) ?_;simp;exact aB (by simp[rZ]) rfl
abbrev JX (c:Cache)(aD:List aA)(gone:List Key):List (Nat×bC):=[S3 c,(1,.cells [aC (aD.map aK)] 44),(2,.cells [aC (gone.map bP)] 40)]
theorem zkc (c:Cache)(aD:List aA)(gone:List Key)(hl:c.l.length+aD.length<=1000000)(hg:gone.length<=9223372036854775807)(h:kB c.cap (cD c.l aD gone)=0):Ct prog 369 [.ptr 0 0,.ptr 1 0,.ptr 2 0,.ptr 3 0] (JX c aD gone) [(3,.cells ((pK c).map .d) 54)] (.bI []) [(3,.cells ((pK ⟨c.cap,cD c.l aD gone⟩).map .d) 54)]:=by
 refine Ct.B func369 ?_;simp;refine CI.p (PX c.l aD gone hl hg) ?_;simp;refine CI.p (Lq c (cD c.l aD gone) h) ?_;simp;exact⟨[],by constructor<;>simp[aV,aW]⟩
theorem zka (c:Cache)(aD:List aA)(gone:List Key)(hl:c.l.length+aD.length<=1000000)(hg:gone.length<=9223372036854775807)(h:¬kB c.cap (cD c.l aD gone)=0):tR prog 369 [.ptr 0 0,.ptr 1 0,.ptr 2 0,.ptr 3 0] (JX c aD gone) [(3,.cells ((pK c).map .d) 54)] (wY (kB c.cap (cD c.l aD gone))) [(3,.cells ((pK ⟨c.cap,cD c.l aD gone⟩).map .d) 54)]:=by
 refine tR.B func369 mixed 99 400 ?_;simp;refine CI.p (PX c.l aD gone hl hg) ?_;simp;refine CI.up [] (Lp c (cD c.l aD gone) h) call250 ?_;refine⟨rfl,?_⟩;constructor<;>simp[aV,aW]
theorem zkb (c:Cache)(aD:List aA)(gone:List Key)(hl:c.l.length+aD.length<=1000000)(hg:gone.length<=9223372036854775807):
  Ct prog 248 [.fn (.func 369) [] [.ptr 0 0,.ptr 1 0,.ptr 2 0,.ptr 3 0]] (JX c aD gone) [(3,.cells ((pK c).map .d) 54)] (int (kB c.cap (cD c.l aD gone))) [(3,.cells ((pK ⟨c.cap,cD c.l aD gone⟩).map .d) 54)]:=by
 by_cases h:kB c.cap (cD c.l aD gone)=0
 ·rw[h];exact Sb call369 (zkc c aD gone hl hg h)
 ·exact Sa call369 (zka c aD gone hl hg h)
theorem zj8 (c:Cache)(aD:List aA)(gone:List Key)(hl:aD.length<=1000)(hg:gone.length<=9223372036854775807):Ct prog 294 [st (pK c),aC (aD.map aK),aC (gone.map bP)] [] [] (.bI [st (pK (sO c aD gone).1),int (sO c aD gone).2]) []:=by
 refine Ct.B func294 ?_;simp;refine CI.p (Dv c) ?_;simp;have h1:=(Dw c).2;have hh:sO c aD gone=zV (rA c) aD gone:=rfl;rw[hh];clear hh;generalize rA c=q at h1⊢;refine CI.cc [64,128,192,640] (zkb q aD gone (by omega) hg) ?_ (ha:=by simp[JX]) (hk:=by simp[JX]);simp[JX];refine aJ (fun h2=>?_) (fun h2=>?_)<;>simp only[h2]<;>simp<;>(try simp only[nT,nF,dT,dF]at h2)
 ·first|exact aB (by simp[zV,h2]) rfl|exact cK (by simp[zV,h2])
 ·first|exact aB (by simp[zV,h2]) rfl|exact cK (by simp[zV,h2])
attribute [simp] ntmps297 results297 ntmps370 results370 ntmps296 results296 ntmps141 results141 ntmps88 results88 ntmps298 results298 ntmps97 results97 ntmps54 results54 ntmps43 results43 ntmps22 results22 ntmps225 results225
theorem Rr (x:eG)(l:List eG)(hl:l.length<=1000000):Ct prog 297 [aC ((x::l).map jZ)] [] [] (.own 64) [(64,.grow 3 ((x::l).map jZ) 145)]:=by
 refine Ct.B func297 ?_;simp;refine⟨by omega,?_⟩;exact⟨[(64,384)],by constructor<;>simp[aV,aW]⟩
theorem Oe (l:List eG)(kf:D)(p:eG->Bool)(hf:∀x∈l,cB prog (.d kf) [st (jZ x)] (bool (p x)))(hl:l.length<=9223372036854775807):Ct prog 370 [.own 0,.d kf] [(0,.grow 3 (l.map jZ) 145)] [] (int (jH p l)) []:=by
 refine Ct.B func370 ?_;simp;refine aQ.inv mixed rfl (ι:={k:Nat//k<=(l).length/\(l.take k).all (fun x=>!p x)=true}) (fun k=>[(0,.own 0),(1,.d kf),(7,int l.length),(8,int k.1)]) (fun k=>[(0,.grow 3 (l.map jZ) 145)]) 64 (fun k=>(l).length-k.1) ⟨0,by omega,by simp⟩ [] (by constructor<;>simp) ?_;rintro⟨k,hk1,hi⟩ B hB;refine CI.n ?_;simp;refine aJ (fun h=>?_) (fun h=>?_)
 ·have hk:k<(l).length:=by simpa using h
  obtain⟨r,hx,hr,hm,ht,hd,hw⟩:=dL hk;simp only[h];simp[hr,hw,hk];refine CI.ff (hf r hm) rfl rfl rfl ?_ (ha:=by simp[hx]);simp[hx];refine aJ (fun hp=>?_) (fun hp=>?_)<;>simp only[hp]<;>simp
  ·have e:=yE hi hr hp;exact⟨[],by constructor<;>simp[aV,aW,e]⟩
  ·refine hB _ ⟨k+1,by omega,by simp[ht,hi,hp]⟩ [] ?_ (by simp;omega);constructor<;>simp[hw,ht,hp]
 ·obtain rfl:k=(l).length:=by simp at h;omega
  simp only[h];simp;rw[fA]at hi;have e:jH p l= -1:=yD (fun x hx=>by have:=eF.1 hi x hx;simpa using this);exact⟨[],by constructor<;>simp[aV,aW,e]⟩
theorem zia (l:List eG)(kf:D)(p:eG->Bool)(hf:∀x∈l,cB prog (.d kf) [st (jZ x)] (bool (p x)))(hl:l.length<=1000000)(h1:jH p l= -1):Ct prog 296 [.own 0,.d kf] [] [(0,.grow 3 (l.map jZ) 145)] (.own 0) [(0,.grow 3 (l.map jZ) 145)]:=by
 refine Ct.B func296 ?_;simp;refine CI.cc [0] (Oe l kf p hf (by omega)) ?_;simp;simp[h1];exact⟨[],by constructor<;>simp[aV,aW]⟩
theorem zh8 (l:List eG)(kf:D)(p:eG->Bool)(hf:∀x∈l,cB prog (.d kf) [st (jZ x)] (bool (p x)))(hl:l.length<=1000000)(i:Nat)(x:eG)(h1:jH p l=i)(h2:i<l.length):Ct prog 296 [.own 0,.d kf] [] [(0,.grow 3 (l.map jZ) 145)] (.sl 0 3 0 (l.filter fun x=>!p x).length) [(0,.grow 3 ((l.filter fun x=>!p x).map jZ++List.replicate (l.length-(l.filter fun x=>!p x).length) [iD 0,iD 0,.v (.slice none 0 0)]) 145)]:=by
 refine Ct.B func296 ?_;simp;refine CI.cc [0] (Oe l kf p hf (by omega)) ?_;simp;have hne:¬(i:Int)= -1:=by omega
 have hwi:IntKind.wrap .i64 ((i:Int)+1)=i+1:=wrap_i64 (by omega) (by omega);simp[h1,hne,hwi];have d0:=p9.start (x:=x) h1 h2;refine aQ.inv mixed rfl (ι:={q:Nat×Nat×List eG//p9 p l q.1 q.2.1 q.2.2}) (fun k=>[(0,.own 0),(1,.d kf),(5,int k.1.2.1),(6,int k.1.1)]) (fun k=>[(0,.grow 3 (k.1.2.2.map jZ) 145)]) 64 (fun k=>l.length-k.1.1) ⟨(i+1,i,l),d0⟩ [] (by constructor<;>simp) ?_;rintro⟨⟨j,i,cur⟩,hd⟩ B hB;clear h1 h2 hne hwi d0;have hlen:=hd.len;have hlt:=hd.lt;have hle:=hd.le;simp only at hlen hlt hle;have w1:IntKind.wrap .i64 ((j:Int)+1)=j+1:=wrap_i64 (by omega) (by omega);have w2:IntKind.wrap .i64 ((i:Int)+1)=i+1:=wrap_i64 (by omega) (by omega);refine CI.n ?_;simp[hlen];refine aJ (fun h=>?_) (fun h=>?_)<;>simp only[h]<;>simp<;>(try simp only[nT,nF,dT,dF]at h)
 ·have hj:j<l.length:=by omega
  have hv:l[j]? =some l[j]:=cI hj;have hm:l[j]∈l:=lU hj;generalize l[j]=v at hv hm;have hg:=hd.get hv;have hjc:j<cur.length:=by omega
  have hgx:cur[j]=v:=by rw[cI hjc]at hg;exact lT hg
  simp[hjc,hgx];refine CI.ff (hf v hm) rfl rfl rfl ?_;simp;have hic:i<cur.length:=by omega
  refine aJ (fun h2=>?_) (fun h2=>?_)<;>simp only[h2]<;>simp[hic]
  ·have hp:p v=false:=by simpa using h2
   refine hB _ ⟨(j+1,i+1,cur.set i v),hd.keep hv hp⟩ [] ?_ (by simp;omega);constructor<;>simp[w1,w2,HI]
  ·have hp:p v=true:=by simpa using h2
   refine hB _ ⟨(j+1,i,cur),hd.del hv hp⟩ [] ?_ (by simp;omega);constructor<;>simp[w1]
 ·have hj:j=l.length:=by omega
  subst hj;have e:cur.take i=l.filter (fun x=>!p x):=hd.done;simp[hlen];have e2:List.take i (List.map jZ cur)=List.map jZ (List.filter (fun x=>!p x) l):=by rw[<-DM,e]
  have e3:(List.filter (fun x=>!p x) l).length=i:=by rw[<-e,yV];omega
  refine⟨by omega,by omega,by omega,?_⟩;have e4:List.drop (i+(l.length-i)) (List.map jZ cur)=[]:=by rw[UE];simp;omega
  rw[e2,e3,e4];exact⟨[],by constructor<;>simp[aV,aW]⟩
theorem zh6 (l:List eG)(kf:D)(p:eG->Bool)(hf:∀x∈l,cB prog (.d kf) [st (jZ x)] (bool (p x)))(hl:l.length<=1000000):Ct prog 296 [.own 0,.d kf] [] [(0,.grow 3 (l.map jZ) 145)] (.own 64) [(64,.grow 3 ((l.filter fun x=>!p x).map jZ) 145)]:=by
 rcases JM p l with⟨h1,h2⟩|⟨i,x,h1,h2,h3,h4⟩
 ·have e:(l.filter fun x=>!p x)=l:=by
   rw[HL];intro a ha;have:=xJ.1 h2 a ha;simpa using this
  have:=Ct.OM (Or.inl ⟨rfl,rfl⟩) (cM _) (zia l kf p hf hl h1);rw[fA]at this;rw[e];exact this
 ·have:=Ct.OM (Or.inr rfl) (by simp) (zh8 l kf p hf hl i x h1 h2);rw[List.take_left' (by simp)]at this;exact this
theorem ziz :Ct prog 297 [aC []] [] [] (.own 64) [(64,.grow 3 [] 145)]:=by
 refine Ct.BS func297 mixed 2 400 ?_;simp;refine⟨?_,?_⟩
 ·refine CI.SP mixed (ι:=Unit) (fun _=>[(2,.d (.v (.slice none 0 0)))]) (fun _=>[]) 65 rfl (fun B hB=>?_) (fun _=>?_)
  ·refine CI.n ?_;simp;refine hB _ () [] ?_;constructor<;>simp
  ·refine CI.j1 2 3 145 rfl rfl ?_;refine CI.n ?_;simp;exact⟨[(64,65)],by constructor<;>simp[aV,aW]⟩
 ·skip
  exact⟨[(64,384)],by constructor<;>simp[aV,aW]⟩
theorem ziw (l:List eG)(hl:l.length<=1000000):Ct prog 297 [aC (l.map jZ)] [] [] (.own 64) [(64,.grow 3 (l.map jZ) 145)]:=by
 cases l with
 |nil=>exact ziz
 |cons x l=>exact Rr x l (by simp at hl;omega)
theorem K0 (n a b:Int):Ct prog 141 [int n,int a,int b] [] [] (bool (decide (a<=n)&&decide (n<=b))) []:=by
 refine Ct.B func141 ?_;simp
 repeat' first
  | (refine bX (fun h=>?_) (fun h=>?_)<;>simp only[h]<;>simp[h])
  | (refine aJ (fun h=>?_) (fun h=>?_)<;>simp only[h]<;>simp[h])
  | (refine⟨(show nY _ _ from by decide+kernel),?_⟩)
  |fail
 all_goals exact aB (by simp[*]) rfl
theorem RH (p:dJ)(h:p.aX.length<=9223372036854775807):Ct prog 88 [st (sE p)] [] [] (int ((p.aX.length:Int)-1)) []:=by
 refine Ct.B func88 ?_;simp;have hw:IntKind.wrap .i64 ((p.aX.length:Int)-1)=p.aX.length-1:=wrap_i64 (by omega) (by omega);exact aB (by simp[hw]) rfl
theorem YL (s:eG):Ct prog 298 [st (jZ s)] [] [] (bool (decide (s.pins=0))) []:=by
 refine Ct.B func298 ?_;simp;exact aB (by simp) rfl
theorem Fq (p:dJ)(hl:p.aX.length<=1000000)(hn:p.next<=2147483648):Ct prog 97 [st (sE p)] [] [] (bool (jU p)) []:=by
 refine Ct.B func97 ?_;simp;refine aQ.inv mixed rfl (ι:={k:Nat//k<=(p.aX).length/\(gX p.next 0 p.aX=gX p.next (uP (p.aX.take k)) (p.aX.drop k)/\0<=uP (p.aX.take k)/\uP (p.aX.take k)<=2147483648)}) (fun k=>[(1,.ptr 64 0),(3,int (uP (p.aX.take k.1))),(8,aC (p.aX.map jZ)),(9,int p.aX.length),(10,int k.1)]) (fun k=>[(64,.cells ((sE p).map .d) 59)]) 65 (fun k=>(p.aX).length-k.1) ⟨0,by omega,by simp⟩ [] (by constructor<;>simp) ?_;rintro⟨k,hk1,hi⟩ B hB;refine CI.n ?_;simp;refine aJ (fun h=>?_) (fun h=>?_)
 ·have hk:k<(p.aX).length:=by simpa using h
  obtain⟨s,hx,hr,hm,ht,hd,hw⟩:=dL hk;simp only[h];simp[hr,hw];obtain⟨i1,i2,i3⟩:=hi;have wA:=wrap_i64 (n:=uP (p.aX.take k)+1) (by omega) (by omega);refine CI.p (RH p (by omega)) ?_;simp;have hsl:jU p=(gX p.next (uP (p.aX.take k)) (s::p.aX.drop (k+1))&&cG p.next 2147483647&&decide (p.aX.length<=1000)):=by rw[jU,i1,hd]
  have hlast:p.aX.drop (k+1)=[]↔(k:Int)=p.aX.length-1:=by rw[UE];omega
  refine aJ (fun h1=>?_) (fun h1=>?_)<;>simp only[h1]<;>simp
  ·have h1':p.aX.drop (k+1)=[]:=hlast.2 (by simpa using h1);simp[wA];refine CI.p (K0 s.id (uP (p.aX.take k)+1) p.next) ?_;simp;refine bX (fun h2=>?_) (fun h2=>?_)<;>simp only[h2]<;>simp
   ·have h2':¬(uP (p.aX.take k)+1<=s.id/\s.id<=p.next):=by simp at h2;omega
    have e:jU p=false:=by rw[hsl];simp[gX,h1'];omega
    exact aB (by simp[e]) rfl
   ·skip
    refine CI.p (K0 s.pins 0 10000) ?_;simp;refine aJ (fun h3=>?_) (fun h3=>?_)<;>simp only[h3]<;>simp
    ·have h3':¬(0<=s.pins/\s.pins<=10000):=by simp at h3;omega
     have e:jU p=false:=by rw[hsl];simp[gX,h1'];omega
     exact aB (by simp[e]) rfl
    ·have h2':uP (p.aX.take k)+1<=s.id/\s.id<=p.next:=by simp at h2;omega
     have h3':0<=s.pins/\s.pins<=10000:=by simp at h3;omega
     refine hB _ ⟨k+1,by omega,by rw[ht,J1,i1,hd];simp[gX,h1',h2',h3'],by rw[ht,J1];omega,by rw[ht,J1];omega⟩ [] ?_ (by simp;omega);constructor<;>simp[hw,ht]
  ·have h1':¬p.aX.drop (k+1)=[]:=fun e=>by rw[hlast]at e;simp[e]at h1
   simp[wA];refine CI.p (K0 s.id (uP (p.aX.take k)+1) p.next) ?_;simp;refine bX (fun h2=>?_) (fun h2=>?_)<;>simp only[h2]<;>simp
   ·have h2':¬(uP (p.aX.take k)+1<=s.id/\s.id<=p.next):=by simp at h2;omega
    have e:jU p=false:=by rw[hsl,gX,aH h1'];simp;omega
    exact aB (by simp[e]) rfl
   ·skip
    refine CI.p (K0 s.pins 1 10000) ?_;simp;refine aJ (fun h3=>?_) (fun h3=>?_)<;>simp only[h3]<;>simp
    ·have h3':¬(1<=s.pins/\s.pins<=10000):=by simp at h3;omega
     have e:jU p=false:=by rw[hsl,gX,aH h1'];simp;omega
     exact aB (by simp[e]) rfl
    ·have h2':uP (p.aX.take k)+1<=s.id/\s.id<=p.next:=by simp at h2;omega
     have h3':1<=s.pins/\s.pins<=10000:=by simp at h3;omega
     refine hB _ ⟨k+1,by omega,by rw[ht,J1,i1,hd,gX,aH h1'];simp[h2',h3'],by rw[ht,J1];omega,by rw[ht,J1];omega⟩ [] ?_ (by simp;omega);constructor<;>simp[hw,ht]
 ·obtain rfl:k=(p.aX).length:=by simp at h;omega
  simp only[h];simp;obtain⟨i1,i2,i3⟩:=hi;have e:jU p=(decide (0<=p.next)&&decide (p.next<=2147483647)&&decide ((p.aX.length:Int)<=1000)):=by
   have e2:decide (p.aX.length<=1000)=decide ((p.aX.length:Int)<=1000):=N3.2 (by omega);rw[jU,i1,List.drop_length,e2];simp[gX,cG]
  refine CI.p (K0 p.next 0 2147483647) ?_;simp;refine bX (fun h2=>?_) (fun h2=>?_)<;>simp only[h2]<;>simp
  ·exact aB (by simp[e,h2]) rfl
  ·exact aB (by simp[e,h2]) rfl
theorem HX (p:dJ)(hp:oI p):Ct prog 54 [st (sE p)] [] [] (st (sE (gQ p))) []:=by
 refine Ct.B func54 ?_;simp;refine CI.p (Fq p hp.sl hp.next) ?_;simp;refine aJ (fun h1=>?_) (fun h1=>?_)<;>simp only[h1]<;>simp<;>(try simp only[nT,nF,dT,dF]at h1)
 ·first|exact aB (by simp[gQ,h1]) rfl|exact cK (by simp[gQ,h1])
 ·first|exact aB (by simp[gQ,h1]) rfl|exact cK (by simp[gQ,h1])
abbrev zid (o:Option eG):AV:=.bI [int ((o.map (·.id)).getD 0),aC (((o.map (·.l)).getD []).map aK),bool o.isSome]
theorem Rg (p:dJ)(hp:oI p):Ct prog 43 [st (sE p)] [] [] (zid (rL p)) []:=by
 refine Ct.B func43 ?_;simp;refine CI.p (HX p hp) ?_;simp;have hs:=FQ p;have hh:rL p=(gQ p).aX.getLast? :=rfl;rw[hh];clear hh;generalize gQ p=q at hs⊢;refine CI.p (RH q (by omega)) ?_;simp;rcases Ni q.aX with e|⟨i,s,e⟩
 ·simp[e];exact aB (by simp[e]) rfl
 ·have e1:((q.aX.length:Int)-1)=i.length:=by rw[e];simp
  have e2:¬(i.length:Int)<0:=by omega
  have e3:i.length<q.aX.length:=by rw[e];simp
  have e4:q.aX[i.length]=s:=by simp[e]
  simp[e1,e2,e3,e4];refine⟨by decide+kernel,?_⟩;exact aB (by simp[e]) rfl
theorem Y9 (l:List eG):(l.flatMap (·.l)).map aA.key=l.flatMap fun s=>s.l.map aA.key:=by rw[List.map_flatMap]
theorem JF (p:dJ)(hp:oI p):Ct prog 22 [st (sE p)] [] [] (aC ((fH p).map bP)) []:=by
 refine Ct.B func22 ?_;simp;refine CI.p (HX p hp) ?_;simp;have hs:=FQ p;have hq:=hp.sound.aX;have hh:fH p=((gQ p).aX.flatMap fun s=>s.l.map aA.key).foldl pQ []:=by rw[<-Y9];rfl
 rw[hh];clear hh;generalize(gQ p).aX=l at hs hq⊢;refine aQ.j1 3 2 149 rfl ?_;refine aQ.V (l) (fun k=>[(3,.own 64),(8,aC (l.map jZ)),(9,int l.length),(10,int k.1)]) (fun k=>[(64,.grow 2 (((l.take k.1).flatMap fun s=>s.l.map aA.key).map bP) 149)]) 65 (fun k hk1 B hB=>?_);simp;refine aJ (fun h=>?_) (fun h=>?_)
 ·have hk:k<(l).length:=by simpa using h
  obtain⟨s,hx,hr,hm,ht,hd,hw⟩:=dL hk;simp only[h];simp[hr,hw];have h64:=(hq s hm).2;have hfl:((l.take k).flatMap fun s=>s.l.map aA.key).length<=64000:=by
   have:=VJ (l:=l.take k) fun q hm=>(hq q (rP hm)).2;rw[<-Y9,vZ];simp at this⊢;omega
  have hsm:(List.take k (List.map (fun a=>a.l.length) l)).sum<=64000:=by simpa[DM]using hfl
  refine CI.cc [] (RO s.l (by omega)) ?_;simp;refine⟨by omega,?_⟩;exact hB hk (by constructor<;>simp[hw,ht])
 ·obtain rfl:k=(l).length:=by simp at h;omega
  simp only[h];simp;have hfl:(l.flatMap fun s=>s.l.map aA.key).length<=64000:=by
   have:=VJ (l:=l) fun q hm=>(hq q hm).2;rw[<-Y9,vZ];omega
  refine CI.cc [64] (O0 (l.flatMap fun s=>s.l.map aA.key) (by omega)) ?_;simp;refine CI.cc [64] (SR (uX (l.flatMap fun s=>s.l.map aA.key)) (by rw[LH];omega)) ?_;simp;rw[ZU];exact aB (by simp) rfl
theorem zcP (p:dJ)(l:List aA)(hp:oI p):Ct prog 225 [st (sE p),aC (l.map aK)] [] [] (.bI [st (sE (oS p l).1),int (oS p l).2.1,int (oS p l).2.2]) []:=by
 refine Ct.B func225 ?_;simp;refine CI.p (HX p hp) ?_;simp;have hs:=FQ p;have hn:=hp.sound.next;have h0:=(oQ.1 (D0 p)).2.1;have hh:oS p l=u5 (gQ p) l:=rfl;rw[hh];clear hh;generalize gQ p=q at hs hn h0⊢;have hw:=wrap_i64 (n:=q.next+1) (by omega) (by omega);refine aJ (fun h1=>?_) (fun h1=>?_)<;>simp only[h1]<;>simp<;>(try simp only[nT,nF,dT,dF]at h1)
 ·first|exact aB (by simp[u5,h1]) rfl|exact cK (by simp[u5,h1])
 obtain⟨nx,sn⟩:=q;simp only at hs hn h0 hw h1;have hf:(sn.filter fun x=>!decide (x.pins=0)).length<=1000:=fV (kS _ _) hs;refine CI.cc [] (ziw sn (by omega)) ?_;simp;refine CI.cc [832] (zh6 sn (dX 298) (fun s=>decide (s.pins=0)) (fun s _=>cB.of (YL s) call298 rfl rfl) (by omega)) ?_;simp;have e:(wQ ⟨nx,sn⟩)=sn.filter fun x=>!decide (x.pins=0):=rfl;rw[<-e]at hf;rw[<-e];refine aJ (fun h2=>?_) (fun h2=>?_)<;>simp only[h2]<;>simp<;>(try simp only[nT,nF,dT,dF]at h2)
 ·have h2':1000<=(wQ ⟨nx,sn⟩).length:=by omega
  first|exact aB (by simp[u5,h1,h2']) rfl|exact cK (by simp[u5,h1,h2'])
 ·have h2':¬1000<=(wQ ⟨nx,sn⟩).length:=by omega
  simp[hw];refine⟨by omega,?_⟩;first|exact aB (by simp[u5,h1,h2']) rfl|exact cK (by simp[u5,h1,h2'])
attribute [simp] ntmps73 results73 ntmps131 results131 ntmps293 results293 ntmps295 results295 ntmps224 results224
theorem Kx (n:Int):Ct prog 73 [int n] [] [] (st (DS (x6 n))) []:=by
 refine Ct.B func73 ?_;simp;refine CI.p (Le n) ?_;simp;exact aB (by simp[x6,vC]) rfl
theorem Fh (w:mO)(hs:dK w.shown):Ct prog 131 [st (DS w)] [] [] (bool (sX w)) []:=by
 refine Ct.B func131 ?_;simp;refine CI.p (Fu w.c) ?_;simp;refine bX (fun h1=>?_) (fun h1=>?_)<;>simp only[h1]<;>simp
 ·refine CI.p (Eh w.c) ?_;simp;refine CI.p (B7 w.shown (rZ w.c) hs) ?_;simp;refine bX (fun h2=>?_) (fun h2=>?_)<;>simp only[h2]<;>simp
  ·refine bX (fun h3=>?_) (fun h3=>?_)<;>simp only[h3]<;>simp
   ·refine⟨by decide+kernel,?_⟩;exact aB (by simp[sX,h1,h2,h3]) rfl
   ·refine⟨by decide+kernel,?_⟩;exact aB (by simp[sX,h1,h2,h3]) rfl
  ·refine⟨by decide+kernel,?_⟩;exact aB (by simp[sX,h1,h2]) rfl
 ·refine⟨by decide+kernel,?_⟩;exact aB (by simp[sX,h1]) rfl
theorem Zu (w:mO)(hs:dK w.shown):Ct prog 293 [st (DS w)] [] [] (st (DS (rY w))) []:=by
 refine Ct.B func293 ?_;simp;refine CI.p (Fh w hs) ?_;simp;refine aJ (fun h1=>?_) (fun h1=>?_)<;>simp only[h1]<;>simp<;>(try simp only[nT,nF,dT,dF]at h1)
 ·refine CI.p (Kx w.c.cap) ?_;simp;first|exact aB (by simp[rY,h1]) rfl|exact cK (by simp[rY,h1])
 ·first|exact aB (by simp[rY,h1]) rfl|exact cK (by simp[rY,h1])
abbrev Ls (w:mO)(b:Bool):List (Nat×bC):=[(0,.cells ((DS w++[bD b]).map .d) 389)]
theorem Xj (w:mO)(c:Cache)(hc:dK c.l):Ct prog 295 [.ptr 0 0,st (pK c)] [] (Ls w false) (.bI []) (Ls (qD w c).1 (qD w c).2):=by
 refine Ct.B func295 ?_;simp;refine CI.p (Eh c) ?_;simp;refine CI.p (B7 (rZ c) w.shown (Jg hc)) ?_;simp;refine aJ (fun h1=>?_) (fun h1=>?_)<;>simp only[h1]<;>simp<;>(try simp only[nT,nF,dT,dF]at h1)
 ·first| (refine⟨[],?_,?_,?_,?_,?_,?_,?_⟩<;>simp[aV,aW,qD,h1];done)| (refine⟨by decide+kernel,?_⟩;refine⟨[],?_,?_,?_,?_,?_,?_,?_⟩<;>simp[aV,aW,qD,h1])
 ·first| (refine⟨[],?_,?_,?_,?_,?_,?_,?_⟩<;>simp[aV,aW,qD,h1];done)| (refine⟨by decide+kernel,?_⟩;refine⟨[],?_,?_,?_,?_,?_,?_,?_⟩<;>simp[aV,aW,qD,h1])
theorem Yn (w:mO)(aD:List aA)(gone:List Key)(hs:dK w.shown)(hc:dK w.c.l)(ha:dK aD)(hl:aD.length<=1000)(hg:gone.length<=9223372036854775807):Ct prog 224 [st (DS w),aC (aD.map aK),aC (gone.map bP)] [] [] (.bI [st (DS (iO w aD gone).1),bool (iO w aD gone).2.1,int (iO w aD gone).2.2]) []:=by
 refine Ct.B func224 ?_;simp;refine CI.p (Zu w hs) ?_;simp;have hh:iO w aD gone=wG (rY w) aD gone:=rfl;rw[hh];clear hh;obtain⟨h1,h2⟩:=Je hc hs;generalize rY w=q at h1 h2⊢;refine CI.p (zj8 q.c aD gone hl hg) ?_;simp;have h3:=Jq (gone:=gone) h1 ha hl;refine aJ (fun h4=>?_) (fun h4=>?_)<;>simp only[h4]<;>simp<;>(try simp only[nT,nF,dT,dF]at h4)
 ·first|exact aB (by simp[wG,h4]) rfl|exact cK (by simp[wG,h4])
 ·refine CI.cc [512] (Xj q (sO q.c aD gone).1 h3) ?_;simp;refine⟨by decide+kernel,?_⟩;first|exact aB (by simp[wG,h4]) rfl|exact cK (by simp[wG,h4])
attribute [simp] ntmps222 results222 ntmps170 results170 ntmps72 results72 ntmps37 results37 ntmps127 results127 ntmps129 results129 ntmps171 results171 ntmps132 results132 ntmps133 results133 ntmps187 results187 ntmps128 results128 ntmps89 results89 ntmps44 results44 ntmps226 results226 ntmps173 results173 ntmps169 results169 ntmps179 results179 ntmps172 results172 ntmps117 results117 ntmps14 results14
theorem zf7 (i:aE.Nn):Ct prog 222 [st (GB i)] [] [] (st (GB (aE.A1 i))) []:=by
 refine Ct.B func222 ?_;simp;refine CI.p (VG i) ?_;simp;refine aJ (fun h1=>?_) (fun h1=>?_)<;>simp only[h1]<;>simp
 ·exact aB (by simp[aE.A1,h1]) rfl
 ·refine CI.p (OY i.m) ?_;simp;exact aB (by simp[aE.A1,h1]) rfl
theorem Xm (i:aE.Nn)(k_ n:Int):Ct prog 170 [st (GB i),int k_,int n] [] [] (.bI [st (GB (aE.take i k_ n).1),int (aE.take i k_ n).2]) []:=by
 refine Ct.B func170 ?_;simp;refine CI.p (zf7 i) ?_;simp;simp only[aE.take];have hb:=aE.zf9 i;generalize aE.A1 i=q at hb⊢;obtain⟨A,B,C,D,M⟩:=q;simp only[aE.Nn.ok]at hb;have wA:=wrap_i64 (n:=A+1) (by omega) (by omega);have wB:=wrap_i64 (n:=B+1) (by omega) (by omega);have wC:=wrap_i64 (n:=C+1) (by omega) (by omega);have wD:=wrap_i64 (n:=D+1) (by omega) (by omega);refine CI.p (X9 k_) ?_;simp;by_cases hk:aE.gH k_=true
 ·rcases aE.uF hk with rfl|rfl|rfl|rfl
  all_goals
   simp[hk]
  all_goals
   repeat' first
    | (refine bX (fun h=>?_) (fun h=>?_)<;>simp only[h]<;>simp[h,wA,wB,wC,wD])
    | (refine aJ (fun h=>?_) (fun h=>?_)<;>simp only[h]<;>simp[h,wA,wB,wC,wD])
    | (refine⟨(show nY _ _ from by decide+kernel),?_⟩)
    |fail
  all_goals
   clear wA wB wC wD;simp only[pN,Bool.not_eq_false',cP,uT]at*;first
    | (exfalso;omega)
    | (refine aB ?_ rfl;simp[aE.DV,aE.Nn.last,aE.Nn.set, *];done)
    | (refine aB ?_ rfl;simp_all[aE.DV,aE.Nn.last,aE.Nn.set];done)
    | (refine aB ?_ rfl;simp_all[aE.DV,aE.Nn.last,aE.Nn.set];split<;>first| (exfalso;omega)|simp_all)
 ·simp[hk];exact aB (by simp[aE.DV,hk]) rfl
theorem Pr (m:Int):Ct prog 72 [int m] [] [] (st (GB (aE.qF m))) []:=by
 refine Ct.B func72 ?_;simp;refine CI.p (OY m) ?_;simp;exact aB (by simp) rfl
theorem wL (l m:Int):Ct prog 37 [int l,int m] [] [] (st (jQ (tG l m))) []:=by
 refine Ct.B func37 ?_;simp;refine CI.p (Pr m) ?_;simp;refine CI.p (Kx l) ?_;simp;exact aB (by simp[tG,x6,vC]) rfl
theorem Kd (n:Int):Ct prog 127 [int n] [] [] (bool (cG n 2147483647)) []:=by
 refine Ct.B func127 ?_;simp
 repeat' first
  | (refine bX (fun h=>?_) (fun h=>?_)<;>simp only[h]<;>simp[h])
  | (refine aJ (fun h=>?_) (fun h=>?_)<;>simp only[h]<;>simp[h])
  | (refine⟨(show nY _ _ from by decide+kernel),?_⟩)
  |fail
 all_goals exact aB (by simp[*,cG]) rfl
theorem OE (n:Int):Ct prog 129 [int n] [] [] (bool (iK n)) []:=by
 refine Ct.B func129 ?_;simp;rw[Ue]
 repeat' first
  | (refine bX (fun h=>?_) (fun h=>?_)<;>simp only[h]<;>simp[h])
  | (refine aJ (fun h=>?_) (fun h=>?_)<;>simp only[h]<;>simp[h])
  | (refine⟨(show nY _ _ from by decide+kernel),?_⟩)
  |fail
 all_goals exact aB (by simp[*]) rfl
theorem MV (s:bB):Ct prog 171 [st (jQ s)] [] [] (bool (qO s)) []:=by
 refine Ct.B func171 ?_;simp;exact aB (by simp[qO]) rfl
theorem V7 (p:dJ)(hp:oI p):Ct prog 132 [st (sE p)] [] [] (bool (zD p)) []:=by
 refine Ct.B func132 ?_;simp;have hl:=MQ hp;refine CI.p (JF p hp) ?_;simp;refine CI.p (GY ⟨3,0,0,0,0,[],[],0,[],fH p⟩ (Qu (v:=⟨[],fH p,0,fQ,false⟩) (by simp only;omega))) ?_;simp;exact aB (by simp[zD]) rfl
theorem zkr (s:bB)(h:fT s):Ct prog 133 [st (jQ s)] [] [] (bool (uQ s)) []:=by
 refine Ct.B func133 ?_;simp;refine CI.p (Rg s.p h.pins) ?_;simp;cases hc:rL s.p with
 |none=>
  simp[hc];refine aJ (fun h1=>?_) (fun h1=>?_)<;>simp only[h1]<;>simp<;>(try simp only[nT,nF,dT,dF]at h1)
  ·exact aB (by simp[uQ,hc,h1]) rfl
  ·exact aB (by simp[uQ,hc,h1]) rfl
 |some c=>
  have hok:dK c.l:=by
   have:c∈(gQ s.p).aX:=BU hc;exact(h.pins.sound.aX c this).1
  simp[hc];refine aJ (fun h1=>?_) (fun h1=>?_)<;>simp only[h1]<;>simp<;>(try simp only[nT,nF,dT,dF]at h1)
  ·first|exact aB (by simp[uQ,hc,h1]) rfl|exact cK (by simp[uQ,hc,h1])
  ·refine CI.p (B7 c.l s.w.shown hok) ?_;simp;first|exact aB (by simp[uQ,hc,h1]) rfl|exact cK (by simp[uQ,hc,h1])
theorem zgl (e:nA):Ct prog 187 [.d (.ro true [[iD e.e0],[iD e.e1],[iD e.e2],[iD e.e3]]),.d (dX 129)] [] [] (int (if iK e.e0=true then 0 else if iK e.e1=true then 1 else if iK e.e2=true then 2 else if iK e.e3=true then 3 else-1)) []:=by
 refine Ct.B func187 ?_;simp;refine aQ.un ?_;simp;refine CI.ff (cB.of (OE e.e0) call129 rfl rfl) rfl rfl rfl ?_;simp;refine aJ (fun h1=>?_) (fun h1=>?_)<;>simp only[h1]<;>simp
 ·exact aB (by simp[h1]) rfl
 refine aQ.un ?_;simp;refine CI.ff (cB.of (OE e.e1) call129 rfl rfl) rfl rfl rfl ?_;simp;refine aJ (fun h2=>?_) (fun h2=>?_)<;>simp only[h2]<;>simp
 ·exact aB (by simp[h1,h2]) rfl
 refine aQ.un ?_;simp;refine CI.ff (cB.of (OE e.e2) call129 rfl rfl) rfl rfl rfl ?_;simp;refine aJ (fun h3=>?_) (fun h3=>?_)<;>simp only[h3]<;>simp
 ·exact aB (by simp[h1,h2,h3]) rfl
 refine aQ.un ?_;simp;refine CI.ff (cB.of (OE e.e3) call129 rfl rfl) rfl rfl rfl ?_;simp;refine aJ (fun h4=>?_) (fun h4=>?_)<;>simp only[h4]<;>simp
 ·exact aB (by simp[h1,h2,h3,h4]) rfl
 refine aQ.un ?_;simp;exact aB (by simp[h1,h2,h3,h4]) rfl
theorem zkd (e:nA):Ct prog 128 [.d (.ro true [[iD e.e0],[iD e.e1],[iD e.e2],[iD e.e3]]),.d (dX 129)] [] [] (bool (iK e.e0||iK e.e1||iK e.e2||iK e.e3)) []:=by
 refine Ct.B func128 ?_;simp;refine CI.p (zgl e) ?_;simp;cases h0:iK e.e0<;>cases h1:iK e.e1<;>cases h2:iK e.e2<;>cases h3:iK e.e3;all_goals
  simp[h0,h1,h2,h3]
 all_goals
  exact aB (by simp[h0,h1,h2,h3]) rfl
theorem Fg (s:bB)(h:fT s):Ct prog 89 [st (jQ s)] [] [] (bool (dI s)) []:=by
 refine Ct.BS func89 mixed 1 400 ?_;simp;refine CI.s (tm:=[(1,.d (.bM (jQ s)))]) (mm:=[]) (nx:=65) [] [64] (by constructor<;>simp) ?_;refine CI.n ?_;simp;refine CI.p (Kd s.aF) ?_;simp;refine bX (fun h1=>?_) (fun h1=>?_)<;>simp only[h1]<;>simp
 ·refine CI.p (Kd s.aL) ?_;simp;refine bX (fun h2=>?_) (fun h2=>?_)<;>simp only[h2]<;>simp
  ·refine CI.arr Cp Cq 99 ?_;simp;refine CI.p (zkd s.fS) ?_;simp;refine bX (fun h3=>?_) (fun h3=>?_)<;>simp only[h3]<;>simp
   ·refine CI.p (VG s.cE) ?_;simp;refine bX (fun h4=>?_) (fun h4=>?_)<;>simp only[h4]<;>simp
    ·refine CI.p (Fh s.w h.shown) ?_;simp;refine bX (fun h5=>?_) (fun h5=>?_)<;>simp only[h5]<;>simp
     ·refine CI.p (Fq s.p h.sl h.next) ?_;simp;refine bX (fun h6=>?_) (fun h6=>?_)<;>simp only[h6]<;>simp
      ·refine CI.p (V7 s.p h.pins) ?_;simp;refine bX (fun h7=>?_) (fun h7=>?_)<;>simp only[h7]<;>simp
       ·refine CI.p (zkr s h) ?_;simp;exact aB (by simp[dI,h1,h2,h3,h4,h5,h6,h7]) rfl
       ·exact aB (by simp[dI,h7]) rfl
      ·exact aB (by simp[dI,h6]) rfl
     ·exact aB (by simp[dI,h5]) rfl
    ·exact aB (by simp[dI,h4]) rfl
   ·have h3':(iK s.fS.e0||iK s.fS.e1||iK s.fS.e2||iK s.fS.e3)=true:=by
     cases hb:(iK s.fS.e0||iK s.fS.e1||iK s.fS.e2||iK s.fS.e3)with
     |true=>rfl
     |false=>simp only[AH]at hb;simp[hb]at h3
    have e:dI s=false:=by unfold dI;rw[h3'];simp
    exact aB (by simp[e]) rfl
  ·exact aB (by simp[dI,h2]) rfl
 ·exact aB (by simp[dI,h1]) rfl
theorem LF (s:bB)(h:fT s):Ct prog 44 [st (jQ s)] [] [] (st (jQ (fG s))) []:=by
 refine Ct.B func44 ?_;simp;refine CI.p (Fg s h) ?_;simp;refine aJ (fun h1=>?_) (fun h1=>?_)<;>simp only[h1]<;>simp<;>(try simp only[nT,nF,dT,dF]at h1)
 ·refine CI.p (wL s.w.c.cap s.cE.m) ?_;simp;first|exact aB (by simp[fG,h1]) rfl|exact cK (by simp[fG,h1])
 ·first|exact aB (by simp[fG,h1]) rfl|exact cK (by simp[fG,h1])
theorem IG (s:bB)(f:G.Frame)(h:fT s)(ht:s.aL<=2147483647)(ht0:0<=s.aL):Ct prog 226 [st (jQ s),st (fY f)] [] [] (.bI [st (jQ (n9 s)),st (fY {f with aL:=s.aL+1,held:=fH s.p})]) []:=by
 refine Ct.B func226 ?_;simp;have hw:=wrap_i64 (n:=s.aL+1) (by omega) (by omega);simp[hw];refine CI.p (JF s.p h.pins) ?_;simp;refine⟨by decide+kernel,?_⟩;refine⟨by decide+kernel,?_⟩;exact aB (by simp[n9]) rfl
theorem Tm (s:bB)(f:G.Frame)(h:fT s)(ht:s.aL<=2147483647)(ht0:0<=s.aL)(hk:f.kind=0\/f.kind=1\/f.kind=2\/f.kind=3):Ct prog 173 [st (jQ s),st (fY f)] [] [] (.bI [st (jQ (lC s f).1),aC ((lC s f).2.map fY)]) []:=by
 refine Ct.B func173 ?_;simp;rcases hk with hk|hk|hk|hk
 all_goals
  simp[hk]
 ·refine CI.p (IG s ⟨2,f.aF,f.kind,f.cY,0,[],[],s.fS.e0,[],[]⟩ h ht ht0) ?_ (ha:=by simp[hk]);simp[hk];refine⟨by decide+kernel,?_⟩;refine⟨by decide+kernel,?_⟩;exact aB (by simp[lC,nA.get,hk]) rfl
 ·refine CI.p (IG s ⟨2,f.aF,f.kind,f.cY,0,[],[],s.fS.e1,[],[]⟩ h ht ht0) ?_ (ha:=by simp[hk]);simp[hk];refine⟨by decide+kernel,?_⟩;refine⟨by decide+kernel,?_⟩;exact aB (by simp[lC,nA.get,hk]) rfl
 ·refine CI.p (IG s ⟨2,f.aF,f.kind,f.cY,0,[],[],s.fS.e2,[],[]⟩ h ht ht0) ?_ (ha:=by simp[hk]);simp[hk];refine⟨by decide+kernel,?_⟩;refine⟨by decide+kernel,?_⟩;exact aB (by simp[lC,nA.get,hk]) rfl
 ·refine CI.p (IG s ⟨2,f.aF,f.kind,f.cY,0,[],[],s.fS.e3,[],[]⟩ h ht ht0) ?_ (ha:=by simp[hk]);simp[hk];refine⟨by decide+kernel,?_⟩;refine⟨by decide+kernel,?_⟩;exact aB (by simp[lC,nA.get,hk]) rfl
theorem zcl (s:bB)(f:G.Frame)(hf:jB f):Ct prog 169 [st (jQ s),st (fY f)] [] [] (int (pG s f)) []:=by
 refine Ct.B func169 ?_;simp;refine aJ (fun h1=>?_) (fun h1=>?_)<;>simp only[h1]<;>simp<;>(try simp only[nT,nF,dT,dF]at h1)
 ·first|exact aB (by simp[pG,h1]) rfl|exact cK (by simp[pG,h1])
 refine CI.p (GY f hf) ?_;simp;refine aJ (fun h2=>?_) (fun h2=>?_)<;>simp only[h2]<;>simp<;>(try simp only[nT,nF,dT,dF]at h2)
 ·first|exact aB (by simp[pG,h1,h2]) rfl|exact cK (by simp[pG,h1,h2])
 refine aJ (fun h3=>?_) (fun h3=>?_)<;>simp only[h3]<;>simp<;>(try simp only[nT,nF,dT,dF]at h3)
 ·first|exact aB (by simp[pG,h1,h2,h3]) rfl|exact cK (by simp[pG,h1,h2,h3])
 refine aJ (fun h4=>?_) (fun h4=>?_)<;>simp only[h4]<;>simp<;>(try simp only[nT,nF,dT,dF]at h4)
 ·first|exact aB (by simp[pG,h1,h2,h3,h4]) rfl|exact cK (by simp[pG,h1,h2,h3,h4])
 ·first|exact aB (by simp[pG,h1,h2,h3,h4]) rfl|exact cK (by simp[pG,h1,h2,h3,h4])
theorem zie (s:bB)(ep:Int)(h:fT s):Ct prog 179 [st (jQ s),int ep] [] [] (.bI [st (jQ (jW s ep).1),aC ((jW s ep).2.1.map fY),int (jW s ep).2.2]) []:=by
 refine Ct.B func179 ?_;simp;refine CI.p (LF s h) ?_;simp;have hh:jW s ep=vP (fG s) ep:=rfl;rw[hh];clear hh;have ho:=h.sound;have ht:=UT (LG s);generalize fG s=q at ho ht⊢;refine bX (fun h1=>?_) (fun h1=>?_)<;>simp only[h1]<;>simp
 ·have h1':ep<=q.aF\/2147483647<ep:=.inl (by simpa using h1);exact aB (by simp[vP,h1']) rfl
 refine aJ (fun h2=>?_) (fun h2=>?_)<;>simp only[h2]<;>simp
 ·have h1':ep<=q.aF\/2147483647<ep:=.inr (by simpa using h2);exact aB (by simp[vP,h1']) rfl
 have h1':¬(ep<=q.aF\/2147483647<ep):=by simp at h1 h2;omega
 refine CI.p (MV q) ?_;simp;refine aJ (fun h3=>?_) (fun h3=>?_)<;>simp only[h3]<;>simp
 ·exact aB (by simp[vP,h1',h3]) rfl
 refine CI.p (Pr q.cE.m) ?_;simp;refine CI.p (Mj q.w.c.l (by have:=ho.cl;omega)) ?_;simp;refine CI.p (IG {q with aF:=ep,up:=true,cE:=aE.qF q.cE.m,fS:=⟨0,0,0,0⟩} ⟨3,ep,0,0,0,[],[],0,[],[]⟩ (.mk' ho.c ho.cl ho.shown ho.pins) ht.2 ht.1) ?_;simp;refine⟨by decide+kernel,?_⟩;exact aB (by simp[vP,h1',h3,sG,wV,n9]) rfl
theorem Ya (s:bB)(f:G.Frame)(h:fT s)(hf:jB f)(hl:f.aD.length<=1000)(hk:f.kind=0\/f.kind=1\/f.kind=2\/f.kind=3):Ct prog 172 [st (jQ s),st (fY f)] [] [] (.bI [st (jQ (jP s f).1),int (jP s f).2]) []:=by
 refine Ct.B func172 ?_;simp;refine CI.p (Yn s.w f.aD f.gone h.shown h.c hf.aD hl hf.gone) ?_;simp;obtain⟨o1,o2⟩:=Jd (gone:=f.gone) h.c h.shown hf.aD hl;obtain⟨o3,o4⟩:=Dj s.w f.aD f.gone;unfold jP;dsimp only;generalize iO s.w f.aD f.gone=W at o1 o2 o3 o4⊢;obtain⟨w',ch,why⟩:=W;simp only at o1 o2 o3 o4⊢;cases ch with
 |false=>
  simp;refine CI.p (V7 s.p h.pins) ?_;simp;refine aJ (fun h1=>?_) (fun h1=>?_)<;>simp only[h1]<;>simp<;>(try simp only[nT,nF,dT,dF]at h1)
  ·rcases hk with hk|hk|hk|hk
   all_goals
    simp[hk]
   all_goals
    first|exact aB (by simp[h1,hk,nA.set]) rfl|exact cK (by simp[h1,hk,nA.set])
  ·rcases hk with hk|hk|hk|hk
   all_goals
    simp[hk]
   all_goals
    refine⟨by decide+kernel,?_⟩
   all_goals
    first|exact aB (by simp[h1,hk,nA.set]) rfl|exact cK (by simp[h1,hk,nA.set])
 |true=>
  simp;refine CI.p (zcP s.p w'.shown h.pins) ?_;simp;have op:=Ji h.pins o2 o4;refine aJ (fun h0=>?_) (fun h0=>?_)<;>simp only[h0]<;>simp<;>(try simp only[nT,nF,dT,dF]at h0)
  ·first|exact aB (by simp[h0]) rfl|exact cK (by simp[h0])
  refine CI.p (V7 (oS s.p w'.shown).1 op) ?_;simp;refine aJ (fun h1=>?_) (fun h1=>?_)<;>simp only[h1]<;>simp<;>(try simp only[nT,nF,dT,dF]at h1)
  ·rcases hk with hk|hk|hk|hk
   all_goals
    simp[hk]
   all_goals
    first|exact aB (by simp[h0,h1,hk,nA.set]) rfl|exact cK (by simp[h0,h1,hk,nA.set])
  ·rcases hk with hk|hk|hk|hk
   all_goals
    simp[hk]
   all_goals
    refine⟨by decide+kernel,?_⟩
   all_goals
    first|exact aB (by simp[h0,h1,hk,nA.set]) rfl|exact cK (by simp[h0,h1,hk,nA.set])
theorem zaG (s:bB)(f:G.Frame)(h:fT s)(hf:jB f):Ct prog 117 [st (jQ s),st (fY f)] [] [] (.bI [st (jQ (jM s f).1),aC ((jM s f).2.1.map fY),int (jM s f).2.2]) []:=by
 refine Ct.B func117 ?_;simp;refine CI.p (LF s h) ?_;simp;have hh:jM s f=sW (fG s) f:=rfl;rw[hh];clear hh;have ho:=h.sound;have ht:=UT (LG s);generalize fG s=q at ho ht⊢;refine CI.p (zcl q f hf) ?_;simp;refine aJ (fun h1=>?_) (fun h1=>?_)<;>simp only[h1]<;>simp<;>(try simp only[nT,nF,dT,dF]at h1)
 ·first|exact aB (by simp[sW,h1]) rfl|exact cK (by simp[sW,h1])
 have F:=PH h1;have hk:=PO F;have hl:=(xR (nW.1 F).small).1;refine CI.p (Xm q.cE f.kind f.cY) ?_;simp;refine aJ (fun h2=>?_) (fun h2=>?_)<;>simp only[h2]<;>simp<;>(try simp only[nT,nF,dT,dF]at h2)
 ·refine CI.p (MV q) ?_;simp;refine aJ (fun h3=>?_) (fun h3=>?_)<;>simp only[h3]<;>simp<;>(try simp only[nT,nF,dT,dF]at h3)
  ·exact aB (by simp[sW,h1,h2,h3]) rfl
  refine CI.p (Ya q f ho hf (by omega) hk) ?_;simp;have hos:=ho.step hf.aD (show f.aD.length<=1000 by omega);have htu:=Yh q f;refine aJ (fun h4=>?_) (fun h4=>?_)<;>simp only[h4]<;>simp<;>(try simp only[nT,nF,dT,dF]at h4)
  ·exact aB (by simp[sW,h1,h2,h3,h4]) rfl
  refine CI.p (MV q) ?_ (ha:=by simp[h3]);simp[h3];refine CI.p (Tm {(jP q f).1 with cE:=(aE.take q.cE f.kind f.cY).1} f (.mk' hos.c hos.cl hos.shown hos.pins) (by simp only[htu];exact ht.2) (by simp only[htu];exact ht.1) hk) ?_;simp;exact aB (by simp[sW,h1,h2,h3,h4]) rfl
 ·refine aJ (fun h5=>?_) (fun h5=>?_)<;>simp only[h5]<;>simp<;>(try simp only[nT,nF,dT,dF]at h5)
  ·refine CI.p (MV q) ?_;simp;refine aJ (fun h3=>?_) (fun h3=>?_)<;>simp only[h3]<;>simp<;>(try simp only[nT,nF,dT,dF]at h3)
   ·exact aB (by simp[sW,h1,h2,h3,h5]) rfl
   refine CI.p (Tm q f ho ht.2 ht.1 hk) ?_;simp;exact aB (by simp[sW,h1,h2,h3,h5]) rfl
  ·exact aB (by simp[sW,h1,h2,h5]) rfl
theorem LL (s:bB)(h:fT s):Ct prog 14 [st (jQ s)] [] [] (.bI [aC ((((hC s).map (·.l)).getD []).map aK),bool (hC s).isSome]) []:=by
 refine Ct.B func14 ?_;simp;refine CI.p (LF s h) ?_;simp;have hh:hC s=rL (fG s).p:=rfl;rw[hh];refine CI.p (Rg (fG s).p h.sound.pins) ?_;simp;exact aB (by simp) rfl
attribute [simp] ntmps61 results61
theorem xS (s:cL)(p:aT)(hs:xB s)(hl:s.v.bF.length<=1000000)(hpl:p.bV.length<=1000000):Ct prog 61 [st (oP s),st (jT p)] [] [] (bool (pF s p)) []:=by
 refine Ct.B func61 ?_;simp;refine CI.p (VE s hs hl) ?_;simp;have ho:=(Dr hs).v.bF;have hh:pF s p=((kA s).lB&& !(kA s).v.open_&&decide ((kA s).v.bF=dR p)):=rfl;rw[hh];clear hh;generalize kA s=q at ho⊢;refine CI.p (AX p hpl) ?_;simp;refine bX (fun h1=>?_) (fun h1=>?_)<;>simp only[h1]<;>simp
 ·refine bX (fun h2=>?_) (fun h2=>?_)<;>simp only[h2]<;>simp
  ·refine CI.p (B7 q.v.bF (dR p) ho) ?_ (ha:=by simp[dR]);simp[dR];exact aB (by simp[h1,h2]) rfl
  ·exact aB (by simp[h1,h2]) rfl
 ·exact aB (by simp[h1]) rfl
end Go.Proofs.YtegplpagkajolaaGreatDoor
