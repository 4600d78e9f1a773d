/- A FRAMEWORK OF MY OWN (4) -/
import Derived.Test.YtobcmagefgdgdaaGreatDoorFc
import Derived.RangeFuncCalls
import Derived.RangeFuncLeaves
import Derived.RangeFuncOwn
import Derived.Shelf.Abstract
import Derived.Lib.IndexLaws
import Derived.Shelf.SlSortCmp.NoneTotal
import Derived.Scope
import Derived.ScopeJumps
import Derived.Shelf.Lays2
import Derived.Shelf.RegionOpenPlain
import Derived.Deep.LoopGhost
import Derived.Deep.RegionLaw
import Derived.Lib.Walk
import Derived.Sort.WalkB12
import Derived.Sort.EncStr
import Derived.Lib.SliceRun
import Derived.Lib.SlicesDelete
set_option linter.unusedSimpArgs false
set_option linter.unusedVariables false
set_option maxRecDepth 100000
set_option maxHeartbeats 8000000
section
open Go.RowKit
namespace Go.AI
variable {F : Fence} {n m : Nat} {P : Program}
def zgo :Exit->Option (Option Code)
 |.normal=>some none
 |.ret=>some (some .ret)
 |.exit id=>some (some (.exit id))
 |.goto t=>some (some (.goto t))
 |_=>none
def zca (l:Nat)(R:Ending->World->Prop)(e:Exit)(_:Act)(W3:World):Prop:=
 ∃jump,zgo e=some jump/\∃q,W3.heap[l]? =some (.loop q)/\R (.returned (.bool jump.isNone)) (W3.putObj l (.loop {q with state:=if jump.isNone then .ready else .done,pending:=jump}))
theorem zb9 {l:Nat}{r:Loop}{args:Array Value}{W:World}{R:Ending->World->Prop}(hl:W.heap[l]? =some (.loop r))(hr:r.state=.ready)(hs:args.size=r.params.size)(hF:F.fn r.fn)(a₁:Act)
  (W₁:World) (hl₁:W₁.heap[l]? =some (.loop r))
  (hassign:∀K:Act->World->Prop,K a₁ W₁->r.assign.wpIn (F.inRound l) m P (Exit.then K (λ_ _ _=>False)) {tmps:=(r.params.zip args).foldl (λt (p,v)=>t.setIfInBounds p v) r.tmps,defers:=[]} W)
  (hbody:r.body.wpIn (F.inRound l) m P (zca l R)
    a₁ (W₁.putObj l (.loop {r with state:=.busy}))):YieldAt F m P l args W R:=by
 refine⟨r.fn,_,r.assign,r.body,run_yield hl hs,roundIn_of_wpIn hF (hassign _ ⟨_,run_beginRound hl₁ hr,AP hbody ?_⟩)⟩;rintro e a3 W3 ⟨jump,hj,q,hq,hR⟩;cases e with
 |normal=>cases hj;exact⟨_,_,run_endRound none hq,hR⟩
 |ret=>cases hj;exact⟨_,_,run_endRound (some .ret) hq,hR⟩
 |exit id=>cases hj;exact⟨_,_,run_endRound (some (.exit id)) hq,hR⟩
 |goto t=>cases hj;exact⟨_,_,run_endRound (some (.goto t)) hq,hR⟩
 |panic ch=>cases hj
 |outgrown=>cases hj
theorem Fx {g:Operand}{ps:Array Tmp}{assign body:Code}{Q:Exit->Act->World->Prop}{a:Act}{w:World}(hro:F.round=none)(h1:1<=n){gf:Nat}{lb:Array Value}(hg:a.eval g=.func (.func gf) #[] lb)(hFg:F.fn gf)
  (eg:∀args w,(callFunc gf args).run P w=.ok (.enter gf args) w)
  (h:∀fn,F.fn fn->∀r:Loop,r={state:=.ready,pending:=none,fn,tmps:=a.tmps,params:=ps,assign,body,defers:=w.heap.size}->
    CallsIn F (n-1) P gf (#[.func (.yield (w.heap.size+1)) #[] #[]]++lb) ((w.alloc (.deferred (some []))).alloc (.loop r)) λe W=>(∃v,e=.returned v)/\∃q:Loop,W.heap[w.heap.size+1]? =some (.loop q)/\q.state≠ .busy/\
     (match q.pending with
       |none=>Q .normal {a with defers:={target:=.collected w.heap.size,args:=#[]}::a.defers} (W.putObj (w.heap.size+1) (.loop {q with state:=.exhausted}))
       |some c=>c.wpIn F n P Q {a with defers:={target:=.collected w.heap.size,args:=#[]}::a.defers} (W.putObj (w.heap.size+1) (.loop {q with state:=.exhausted})))):
  (Code.rangeFunc g ps assign body).wpIn F n P Q a w:=by
 refine wpIn_rangeFunc ?_;intro fn hfn;rw[hro];obtain⟨r,hr⟩:∃r:Loop,r={state:=.ready,pending:=none,fn,tmps:=a.tmps,params:=ps,assign,body,defers:=w.heap.size}:=⟨_,rfl⟩;obtain⟨W1,hW1⟩:∃W1,(w.alloc (.deferred (some []))).alloc (.loop r)=W1:=⟨_,rfl⟩;refine⟨w.heap.size+1,[{target:=.collected w.heap.size,args:=#[]}],W1,{target:=.fn (.func gf) lb,args:=#[.func (.yield (w.heap.size+1)) #[] #[]]},W1,gf,
  #[.func (.yield (w.heap.size+1)) #[] #[]]++lb,W1,?_,?_,?_,?_,λ_=>h1,?_⟩
 ·rw[<-hW1,hr];exact run_enterLoop_outer _ _ _ _ _
 ·simp only[resolve,hg];simp[go_sem]
 ·intro f' hf';simp[Target.leads]at hf';subst hf';exact hFg
 ·simp[go_sem,eg]
 ·rw[<-hW1];refine(h fn hfn r hr).mono ?_;rintro e W2 ⟨⟨v,rfl⟩,q,hq,hb,hk⟩;exact⟨q.pending,_,run_endLoop hq hb,hk⟩
theorem Ct.grow {P:Program}{f:FuncId}{xs:List Value}{r:Value}(h:∀w,Calls P f xs.toArray w λe w'=>e=.returned r/\Below w.heap.size w w'/\w.drawn<=w'.drawn):Ct P f (xs.map λx=>.d (.v x)) [] [] (.d (.v r)) []:=by
 intro σ I w vs hI hl ha hm hn;have e:vs=xs:=by
  refine JT λi=>?_;by_cases hi:i<vs.length
  ·have hi':i<xs.length:=by simpa[hl]using hi
   have:=ha i (.d (.v xs[i])) vs[i] (by simp) (by simp);generalize e1:vs[i]=y at this;generalize e2:xs[i]=z at this;have e:y=z:=by
    cases this with
    |d h=>cases h with
     |v=>rfl
   simp[hi,hi',e1,e2,e]
  ·simp_all
 subst e;refine(h w).mono λe w' ⟨h1,hb,hd⟩=>⟨r,σ,I,h1,?_,.d (.v r)⟩;refine⟨hb.os,hb.tape,⟨hb.output,hd⟩,hb.size,λ_ _ h=>h,λ_ h h'=>absurd h h',λ_ h=>h,λn hn=>AU (hI n hn) hb.size,λ_ h=>.inl h,λn hn _=>hb.block n hn,?_,λb k h=>by simp at h,λn ho=>?_⟩
 ·exact⟨λb k h=>by simp at h,λb b' k k' x x' n h=>by simp at h⟩
 ·simp_all
end Go.AI
end
namespace Go.AI
def BT (gv:List Nat)(x:X)(t:Nat):AV:=fG (λb=>!gv.contains b) (cK x.mm) 8 (cI x.tm t)
def FL (e:aN)(gv:List Nat):aN:=⟨e.res,e.rd,e.wr++gv.map λb=>(b,none)⟩
attribute [simp] FL
@[simp] theorem lenAll_take' {es:List (List D)}{n:Nat}(k:Nat)(h:iY es n=True):iY (es.take k) n=True:=
  eq_true λe he=>of_eq_true h e (pY he)
section
variable {ro : Option Nat} {dp : Nat} {J : Names -> (Nat -> Prop) -> World -> Prop}
theorem CI.zjB {P:Program}{nt:Nat}{R:Exit->X->Prop}{ops:Array Oper}{o:Oper}{rest:List Oper}{i:Nat}{ft:List (List Nat×List Nat)}{draw:Bool}{k:List It}{x:X}{c:Call}{fo:Operand}{f:FuncId}{first captured:List AV}{args:List AV}{mr m m':List (Nat×aY)}{res:AV}(gv bn:List Nat)
  (hct:Ct P f args mr m res m') (hen:Enters P f) (ho:o.op=.call c) (hc:c.callee=.value fo) (hdst:lY nt o.dst=true) (hg:o.guard=none\/∃g wa,o.guard=some (g,wa)/\pB ops g (cI x.tm)=some wa)
  (hf:sG (ev (BT gv x) fo)=some (f,first,captured)) (ha:eQ.leL (first++c.args.toList.map (ev (BT gv x))++captured) (args.map (AV.bU (dO bn (x.nx+64*i))))) (hn:y5 bn args mr m res m')
  (hk:∀p∈mr++m,rI gv (cK x.mm) (dO bn (x.nx+64*i) p.1)=some (p.2.bU (dO bn (x.nx+64*i)))) (hgv:∀b,b∈gv->(cK x.mm b).isSome=true)
  (h:CI ro dp J P nt R (.ops ops rest (i+1) (ft++[(FL (kR bn (x.nx+64*i) mr m res m') gv).qQ]) draw::k) (x.app o.dst (FL (kR bn (x.nx+64*i) mr m res m') gv))):CI ro dp J P nt R (.ops ops (o::rest) i ft draw::k) x:=
 .op _ hdst hg (bJ.rR (by simp[xF,ho]) (bJ.give gv hgv (Jj ho hc _ _ _ hf hen hct ha hn hk))) h
end
open Go.Sort Go.Proofs Go.RowKit Go.Shelf
theorem zhd {w w':World}(hs:w.heap.size<=w'.heap.size)(hf:∀n,n<w.heap.size->w'.heap[n]? =w.heap[n]?)(ho:w'.os=w.os)(ht:w'.tape=w.tape)(hout:w'.output=w.output)(hd:w.drawn<=w'.drawn):
  ∃q os,w'=grow (w.drewN q) os:=by
 refine⟨w'.drawn-w.drawn,w'.heap.extract w.heap.size w'.heap.size,?_⟩;have e:w.heap++w'.heap.extract w.heap.size w'.heap.size=w'.heap:=by
  grind
 have e2:w.drawn+(w'.drawn-w.drawn)=w'.drawn:=by omega
 cases w;cases w';simp only[grow,World.drewN]at*;subst ho ht hout;rw[e,e2]
theorem zi6 {α:Type} [Inhabited α]{P:Program}{g:FuncId}{enc:α->List Value}{k:Nat}{cf:α->α->Int}
  (hc:∀a b:α,Ct P g [.agg ((enc a).map λv=>.d (.v v)),.agg ((enc b).map λv=>.d (.v v))] [] [] (.d (.v (.int .i64 (cf a b)))) []) (blk off size:Nat) (w:World):
  CmpLays P g #[] enc k cf blk off size w:=by
 intro m os dk hs x y;have hv:∀(I:Nat->Prop) (W:World) (z:α),RV BH I W (.agg ((enc z).map λv=>.d (.v v))) (.agg (enc z).toArray):=λI W z=>.agg (by simp) λi c v h1 h2=>by
  simp only[jX]at h1;obtain⟨u,h3,rfl⟩:=sM.1 h1;rw[h2]at h3;cases h3;exact .d (.v _)
 refine(hc x y BH (λ_=>False) _ [.agg (enc x).toArray,.agg (enc y).toArray] (λ_ h=>h.elim) rfl (λi c v h1 h2=>?_) ⟨λb k hb=>by simp at hb,λb b' k k' x x' n hb=>by simp at hb⟩ (λ_ _=>rfl)).mono λe W' ⟨v,σ',I',he,hp,hr⟩=>?_
 ·grind
 ·rw[eF hr]at he;refine⟨he,zhd hp.size (λn hn=>hp.frame n hn (by rintro⟨b,_,_,hb,_⟩;simp at hb)) hp.os hp.tape hp.output.eq hp.output.drawn⟩
variable {α : Type} [Inhabited α]
theorem Ct.sort {P:Program}{f g:FuncId}{enc:α->List Value}{k:Nat}(hk:0<k)(henc:∀x,(enc x).length=k)(h1:∀x,∀v∈enc x,v.oneCell'=true){cf:α->α->Int}{sortL:List α->List α}(hsl:∀l,(sortL l).length=l.length){T:TypeId}{l:List α}
  (hnone:∀(p:Option Addr) (cap:Nat) (fv:Value) (w:World),Calls P f #[.slice p 0 cap,fv] w λe w'=>e=.returned (.tuple #[])/\w'=w)
  (hsort:∀(blk off cap:Nat) (d:Array α) (w:World),CmpLays P g #[] enc k cf blk off d.size w->HoldsK enc k w blk off d->blk<w.heap.size->d.size<4611686018427387904->
    Calls P f #[.slice (some ⟨blk,off,none⟩) d.size cap,.func (.func g) #[] #[]] w λe w'=>e=.returned (.tuple #[])/\∃n os,w'=sortWorldK enc k w blk off n (sortL d.toList).toArray os)
  (hc:∀a b:α,Ct P g [.agg ((enc a).map λv=>.d (.v v)),.agg ((enc b).map λv=>.d (.v v))] [] [] (.d (.v (.int .i64 (cf a b)))) []) (hl:l.length<4611686018427387904):
  Ct P f [.own 0,.d (dE g)] [] [(0,.grow k (l.map λx=>(enc x).map D.v) T)] (.d (.v (.tuple #[]))) [(0,.grow k ((sortL l).map λx=>(enc x).map D.v) T)]:=by
 intro σ I w vs hI hlen ha hm hn
 match vs,hlen with
 |[y,fv],_=>
 have e1:=eF (ha 1 _ _ rfl rfl);subst e1;have hy:σ 0=some y:=by cases ha 0 _ _ rfl rfl with|own h _=>exact h
 obtain⟨y',hy',hrb,hnn⟩:=hm.blk 0 _ rfl;rw[hy]at hy';cases hy';have same:l=[]->Calls P f #[y,.func (.func g) #[] #[]] w λe w'=>∃v σ' I',e=.returned v/\eG σ I w (bB ([]++[(0,.grow k (l.map λx=>(enc x).map D.v) T)])) 64 σ' I' w' (bB ([]++[(0,.grow k ((sortL l).map λx=>(enc x).map D.v) T)]))/\RV σ' I' w' (.d (.v (.tuple #[]))) v:=by
  intro hl0;have e0:sortL l=[]:=kH (by rw[hsl,hl0];rfl);have hrb2:RB σ I w (.grow k [] T) y:=by simpa[hl0]using hrb
  have:∃p cap,y=.slice p 0 cap:=by
   cases hrb2 with
   |none=>exact⟨_,_,rfl⟩
   |emp a=>exact⟨_,_,rfl⟩
   |grow=>exact⟨_,_,rfl⟩
  obtain⟨p,cap,rfl⟩:=this;refine(hnone p cap _ w).mono λe w' ⟨he,hw⟩=>⟨_,σ,I,he,?_,.d (.v _)⟩;subst hw;rw[e0];subst hl0;exact eG.rfl' hI hm
 by_cases hl0:l=[]
 ·exact same hl0
 generalize hes:(l.map λx=>(enc x).map D.v)=es at hrb hm;have hlen':es.length=l.length:=by rw[<-hes];simp
 cases hrb with
 |none=>exact absurd (kH hlen'.symm) hl0
 |emp a=>exact absurd (kH hlen'.symm) hl0
 | @grow sz es T n cap arr hw hlc hcap hmax hsz hr=>
   have hcap0:0<cap:=by
    rcases wY l.length with h|h
    ·exact absurd (kH h) hl0
    ·omega
   have hhb:hb (.slice (some ⟨n,0,none⟩) es.length cap)=some n:=vJ hcap0;have hblk:n<w.heap.size:=(hnn n hhb).1;have cell:∀(i j:Nat),i<l.length->j<k->arr[i*k+j]? =some (enc l.toArray[i]!)[j]! :=by
    intro i j hi hj;obtain⟨x,hx⟩:∃x,l[i]? =some x:=⟨_,bO hi⟩;have hv:(enc x)[j]? =some ((enc x)[j]'(by rw[henc];exact hj)):=bO _;obtain⟨u,h2,h3,_⟩:=hr i ((enc x).map D.v) j (.v ((enc x)[j]'(by rw[henc];exact hj))) (by rw[<-hes];simp[hx]) (by simp);rw[h2];have:u=(enc x)[j]'(by rw[henc];exact hj):=by cases h3;rfl
    rw[this];have e2:l.toArray[i]! =x:=by
     rw[EE l.toArray i (by simpa using hi)];simpa[hi]using hx
    rw[e2,EE (enc x) j (by rw[henc];exact hj)]
   have hH:HoldsK enc k w n 0 l.toArray:=by
    intro t ht;rw[size_flatK]at ht;have ht':t<l.length*k:=by simpa using ht
    have hd:=TL (uO _ _▸ht');have hm':=EH t hk;rw[get_flatK _ _ _ _ ht];have:=cell (t/k) (t%k) hd hm';rw[uO,Nat.div_add_mod]at this;refine⟨?_,?_⟩
    ·simp only[World.cell?,hw];simpa using this
    ·simp[World.frozen?,hw]
   have hcall:=hsort n 0 cap l.toArray w (zi6 hc _ _ _ _) hH hblk (by simpa using hl);have hyy:(Value.slice (some ⟨n,0,none⟩) es.length cap)=.slice (some ⟨n,0,none⟩) l.toArray.size cap:=by rw[hlen'];simp
   have hcall':Calls P f #[.slice (some ⟨n,0,none⟩) es.length cap,.func (.func g) #[] #[]] w λe w'=>e=.returned (.tuple #[])/\∃m os,w'=sortWorldK enc k w n 0 m (sortL l).toArray os:=by
    rw[hyy];simpa using hcall
   refine hcall'.mono λe w' ⟨he,m,os,hw'⟩=>⟨_,σ,I,he,?_,.d (.v _)⟩;obtain⟨arr',harr⟩:∃a,putCells id 0 (flatK enc k (sortL l).toArray) arr=a:=⟨_,rfl⟩;have hsize:arr'.size=arr.size:=by rw[<-harr];simp[putCells]
   have hheap:∀b,b<w.heap.size->w'.heap[b]? =if b=n then some (.cells arr' T (0,0))else w.heap[b]? :=by
    intro b hb;rw[hw'];simp only[sortWorldK,Go.Sort.grow,putRowK,putRow,mapBlock,Sort.ahead];rw[Array.getElem?_append_left (by simpa using hb),TZ];by_cases hbn:b=n
    ·subst hbn;simp only[fK,hw,tM,onCells,harr]
    ·rw[aT (λh=>hbn h.symm),aT hbn]
   have hsz':w.heap.size<=w'.heap.size:=by rw[hw'];simp[sortWorldK,Go.Sort.grow,putRowK,putRow,mapBlock,Sort.ahead]
   have keep:∀b,I b->w'.heap[b]? =w.heap[b]? :=λb hb=>by
    rw[hheap b (hI b hb),aT];rintro rfl;exact(hnn b hhb).2 hb
   have own1:∀b,eZ σ (bB ([]++[(0,.grow k es T)])) b->b=n:=by
    rintro b ⟨c,q,z,q1,q2,q3⟩;simp only[EI,bB]at q1;split at q1
    ·rename_i h0;subst h0;rw[hy]at q2;cases q2;rw[hhb]at q3;exact(mW q3).symm
    ·cases q1
   have hown:eZ σ (bB ([]++[(0,.grow k es T)])) n:=⟨0,_,_,rfl,hy,hhb⟩;have newcell:∀(i j:Nat),i<l.length->j<k->arr'[i*k+j]? =some (enc (sortL l).toArray[i]!)[j]! :=by
    intro i j hi hj;have lt:i*k+j<l.length*k:=by
     have:=oQ k (show i+1<=l.length from hi);rw[kC,sN]at this;omega
    have hb2:i*k+j<arr.size:=by
     have:=cell i j hi hj;exact(qZ.1 this).1
    rw[<-harr];simp only[putCells,Array.getElem?_mapIdx,uQ hb2,tM,size_flatK,JL,hsl,y8,AR,AQ,aZ lt,MQ,id];have e1:(i*k+j)/k=i:=(blk_iff k i _ hk).1 ⟨by omega,by omega⟩;have e2:(i*k+j)%k=j:=by rw[Nat.mod_eq_sub_div_mul,e1];omega
    rw[get_flatK _ _ _ _ (by simpa[hsl]using lt),e1,e2]
   refine⟨by rw[hw'];rfl,by rw[hw'];rfl,⟨by rw[hw'];rfl,by rw[hw'];exact Nat.le_add_right _ _⟩,hsz',λ_ _ h=>h,λ_ h h'=>absurd h h',λ_ h=>h,λb hb=>AU (hI b hb) hsz',λ_ h=>.inl h,λb hb ho=>?_,⟨λb q hq=>?_,λb b' q q' x x' c q1 q2 q3 q4 q5 q6=>?_⟩,λb q hq=>?_,λb ho=>?_⟩
   ·rw[hheap b hb,aT];rintro rfl;exact ho hown
   ·simp only[EI,bB]at hq;split at hq
    ·rename_i h0;subst h0;cases hq;refine⟨_,hy,?_,λc hc'=>?_⟩
     ·have hll:(List.map (λx=>List.map D.v (enc x)) (sortL l)).length=es.length:=by simp[hsl,hlen']
      rw[show(Value.slice (some ⟨n,0,none⟩) es.length cap)=.slice (some ⟨n,0,none⟩) (List.map (λx=>List.map D.v (enc x)) (sortL l)).length cap by rw[hll]];refine .grow (by rw[hheap n hblk,aZ rfl]) (by rw[hsize];exact hlc) (by rw[hll];exact hcap) hmax (λe he=>?_) (λi e j c h2 h3=>?_)
      ·simp only[fU]at he;obtain⟨x,_,rfl⟩:=he;simp[henc]
      ·simp only[jX]at h2;obtain⟨x,h4,rfl⟩:=sM.1 h2;simp only[jX]at h3;obtain⟨u,h5,rfl⟩:=sM.1 h3;have hi:i<l.length:=by rw[<-hsl];exact(cE.1 h4).1
       have hj:j<k:=by rw[<-henc x];exact(cE.1 h5).1
       refine⟨_,newcell i j hi hj,?_,?_⟩
       ·have e2:(sortL l).toArray[i]! =x:=by
         rw[EE (sortL l).toArray i (by simpa[hsl]using hi)];simpa[cE,hsl,hi]using h4
        have e3:(enc x)[j]! =u:=by
         rw[EE (enc x) j (by rw[henc];exact hj)];have:=bO (l:=enc x) (i:=j) (by rw[henc];exact hj);rw[this]at h5;exact mW h5
        rw[e2,e3];exact .v _
       ·have e2:(sortL l).toArray[i]! =x:=by
         rw[EE (sortL l).toArray i (by simpa[hsl]using hi)];simpa[cE,hsl,hi]using h4
        rw[e2,EE (enc x) j (by rw[henc];exact hj)];exact h1 x _ (mF _)
     ·rw[hhb]at hc';cases hc';exact⟨AU hblk hsz',(hnn n hhb).2⟩
    ·cases hq
   ·simp only[EI,bB]at q1 q2;split at q1
    ·split at q2
     ·omega
     ·cases q2
    ·cases q1
   ·left;simp only[EI,bB]at hq⊢;split at hq
    ·rename_i h0;simp[h0]
    ·cases hq
   ·left;obtain⟨c,q,z,q1,q2,q3⟩:=ho;simp only[EI,bB]at q1;split at q1
    ·rename_i h0;subst h0;exact⟨0,_,z,rfl,q2,q3⟩
    ·cases q1
end Go.AI
namespace Go.AI
theorem RB.zeL {σ:Names}{I:Nat->Prop}{w:World}{k:aY}{x:Value}{n:Nat}{r:Loop}(h:RB σ I w k x)(hn:hb x=some n):w.heap[n]? ≠some (.loop r):=by
 cases h with
 |cells h1 h2 h3=>simp[hb]at hn;subst hn;rw[h1];simp
 |none=>simp[hb]at hn
 |emp a=>simp[hb]at hn
 | @grow sz es T n' cap arr h1 h2 h3 h4 h5 h6=>
   cases cap with
   |zero=>simp[hb]at hn
   |succ cap=>simp[hb]at hn;subst hn;rw[h1];simp
 |map keys vals h1 _ _ _ _ _=>simp[hb]at hn;subst hn;rw[h1];simp
 |oJ keys vals h1 _ _ _ _ _ _ _ _=>simp[hb]at hn;subst hn;rw[h1];simp
 |iter h1 h2=>subst h2;simp[hb]at hn;subst hn;rw[h1];simp
 |yT=>simp[hb]at hn
 |xS a=>simp[hb]at hn
 |dR h1 h2 h3 h4 h5=>simp[hb]at hn;subst hn;rw[h1];simp
theorem PM {σ:Names}{I:Nat->Prop}{w:World}{m:Mem}(hm:RM σ I w m){n:Nat}{r:Loop}(hn:w.heap[n]? =some (.loop r)):¬eZ σ m n:=by
 rintro⟨b,k,x,h1,h2,h3⟩;obtain⟨x',h4,h5,_⟩:=hm.blk b k h1;rw[h2]at h4;cases h4;exact h5.zeL h3 hn
def OW (m m':List (Nat×aY)):Exit->X->Prop:=λe x=>e=.normal/\y4 (cK x.mm) (.d (.v undef)) m (.d (.v undef)) m' []
theorem zb3 {P:Program}{nt L dp:Nat}{r:Loop}{tmA tmB:List (Nat×AV)}{m0 m1 mB:List (Nat×aY)}{nxB:Nat}(hm:P.follows .mixedOrders=true)(hrs:r.state=.ready)(hrp:r.pending=none)
  (hA:CI (some L) dp (λ_ _ _=>True) P nt (λe x=>e=.normal/\AI.Sub x tmB mB nxB []) [.code r.assign] ⟨tmA,m0.map (λp=>(p.1,some p.2)),64⟩)
  (hB:CI (some L) dp (λ_ _ _=>True) P nt (OW m0 m1) [.code r.body] ⟨tmB,mB.map (λp=>(p.1,some p.2)),nxB⟩)
  {T:Array Value} {w:World} {σ:Names} {I:Nat->Prop} (hib:∀n,I n->n<w.heap.size) (hsz:T.size=nt) (htm:∀t,RV σ I w (cI tmA t) (T.getD t undef)) (hrm:RM σ I w (bB m0)) (hlow:∀b,64<=b->σ b=none)
  (hL:w.heap[L]? =some (.loop r)) (hI:¬I L):
  RoundIn (FW none) dp P L r.fn T r.assign r.body w (λe w'=>e=.returned (.bool true)/\∃I',eG σ I w (bB m0) 64 σ I' w' (bB m1)):=by
 refine roundIn_of_wpIn (F:=FW none) trivial ?_;have hLlt:L<w.heap.size:=(qZ.1 hL).1
 let E1:Ctx:={P:=P,w0:=w,uJ:=eZ σ (bB m0),I0:=I,nt:=nt,s0:=σ}
 have hlk:cK (m0.map λp=>(p.1,some p.2))=bB m0:=FB _;have hrel1:Rel E1 (X.den ⟨tmA,m0.map (λp=>(p.1,some p.2)),64⟩) {tmps:=T,defers:=[]} w:=by
  refine⟨σ,I,hsz,rfl,htm,?_,λb hb=>hlow b hb,hib,λ_ h=>h,λn h=>.inl h,λn h=>?_,rfl,rfl,⟨rfl,bY _⟩,bY _,λ_ _ _=>rfl,λ_ _ h=>h,hlow⟩
  ·show RM σ I w (cK _);rw[hlk];exact hrm
  ·have h':eZ σ (cK (m0.map λp=>(p.1,some p.2))) n:=h;rw[hlk]at h';exact .inl h'
 have hw:=(AO hm hA E1 rfl rfl (λ_ _ _ _ _ _=>trivial)).1 rfl _ w hrel1;simp only[eE]at hw;refine AP hw (λe a1 w1 hq=>?_);obtain⟨x,hx,rfl,hsub⟩:tE E1 (λe x=>e=.normal/\AI.Sub x tmB mB nxB []) e a1 w1:=by
  cases e<;>simpa using hq
 obtain⟨σ2,I2,hr2⟩:=Rel.sub hsub hx;have hnb:¬eZ σ (bB m0) L:=PM hrm hL;have hL1:w1.heap[L]? =some (.loop r):=(hr2.frame L hLlt hnb).trans hL;have hI2:¬I2 L:=λh=>by
  rcases hr2.kQ L h with g|g|g
  ·exact hI g
  ·exact hnb g
  ·have g':w.heap.size<=L:=g;omega
 have hlkB:cK (mB.map λp=>(p.1,some p.2))=bB mB:=FB _;have hmB:RM σ2 I2 w1 (bB mB):=by rw[<-hlkB];exact hr2.mm
 have hnB:¬eZ σ2 (bB mB) L:=PM hmB hL1;obtain⟨W,hW⟩:∃W,w1.putObj L (.loop {r with state:=.busy})=W:=⟨_,rfl⟩;have hLlt1:L<w1.heap.size:=(qZ.1 hL1).1;have hWo:∀n,n≠L->W.heap[n]? =w1.heap[n]? :=λn h=>by rw[<-hW];exact World.putObj_heap_other h
 have hWL:W.heap[L]? =some (.loop {r with state:=.busy}):=by rw[<-hW];exact World.putObj_heap_same hLlt1
 have hWs:W.heap.size=w1.heap.size:=by rw[<-hW];simp
 have hmB':RM σ2 I2 W (bB mB):=by
  refine⟨λb k hb'=>?_,λb b' k k' x x' n h1 h2 h3 h4 h5 h6=>hmB.apart b b' k k' x x' n h1 h2 h3 h4 h5 h6⟩;obtain⟨y,hy,hrb,hn⟩:=hmB.blk b k hb';refine⟨y,hy,hrb.mono (λn h=>hWo n (λe=>hI2 (e▸h))) (λ_ h=>h) (λ_ _ h=>h) (λn h=>hWo n (λe=>?_)),λn h=>⟨by rw[hWs];exact(hn n h).1,(hn n h).2⟩⟩;subst e;exact hnB ⟨b,k,y,hb',hy,h⟩
 refine⟨W,by rw[<-hW];exact run_beginRound hL1 hrs,?_⟩
 let E2:Ctx:={P:=P,w0:=W,uJ:=eZ σ2 (bB mB),I0:=I2,nt:=nt,s0:=λb=>if b<64 then σ2 b else none}
 have hrel2:Rel E2 (X.den ⟨tmB,mB.map (λp=>(p.1,some p.2)),nxB⟩) a1 W:=by
  refine⟨σ2,I2,hr2.size,hr2.wQ,λt=>(hr2.tm t).mono (λn h=>hWo n (λe=>hI2 (e▸h))) (λ_ h=>h) (λ_ _ h=>h),?_,hr2.free,λn h=>by rw[hWs];exact hr2.ib n h,λ_ h=>h,λn h=>.inl h,λn h=>?_,rfl,rfl,⟨rfl,bY _⟩,bY _,λ_ _ _=>rfl,λb y hy=>?_,λb hb'=>?_⟩
  ·show RM σ2 I2 W (cK _);rw[hlkB];exact hmB'
  ·have h':eZ σ2 (cK (mB.map λp=>(p.1,some p.2))) n:=h;rw[hlkB]at h';exact .inl h'
  ·simp only[E2]at hy;split at hy
   ·exact hy
   ·cases hy
  ·simp only[E2];rw[aT (by omega)]
 have hwB:=(AO hm hB E2 rfl rfl (λ_ _ _ _ _ _=>trivial)).1 rfl _ W hrel2;simp only[eE]at hwB;refine AP hwB (λe a2 w2 hq2=>?_);obtain⟨y,⟨σf,If,hrf⟩,rfl,hfin⟩:tE E2 (OW m0 m1) e a2 w2:=by
  cases e<;>simpa using hq2
 have hL2:w2.heap[L]? =some (.loop {r with state:=.busy}):=(hrf.frame L (by show L<W.heap.size;omega) hnB).trans hWL;refine⟨_,_,run_endRound none hL2,?_⟩;have hre:({{r with state:=.busy}with state:=if(none:Option Code).isNone then .ready else .done,pending:=none}:Loop)=r:=by
  cases r;simp at hrs hrp;subst hrs;subst hrp;rfl
 rw[hre];obtain⟨w3,hw3⟩:∃w3,w2.putObj L (.loop r)=w3:=⟨_,rfl⟩;have hLlt2:L<w2.heap.size:=(qZ.1 hL2).1;have h3o:∀n,n≠L->w3.heap[n]? =w2.heap[n]? :=λn h=>by rw[<-hw3];exact World.putObj_heap_other h
 have h3L:w3.heap[L]? =some (.loop r):=by rw[<-hw3];exact World.putObj_heap_same hLlt2
 have h3s:w3.heap.size=w2.heap.size:=by rw[<-hw3];simp
 have h3os:w3.os=w2.os:=by rw[<-hw3];rfl
 have h3tape:w3.tape=w2.tape:=by rw[<-hw3];rfl
 have h3out:sI w3 w2:=by rw[<-hw3];exact⟨rfl,bY _⟩
 have hWos:W.os=w1.os:=by rw[<-hW];rfl
 have hWtape:W.tape=w1.tape:=by rw[<-hW];rfl
 have hWout:sI W w1:=by rw[<-hW];exact⟨rfl,bY _⟩
 rw[hw3];have hmf:RM σf If w2 (cK y.mm):=hrf.mm;have e2hs:W.heap.size<=w2.heap.size:=hrf.hs;have e1hs:w.heap.size<=w1.heap.size:=hr2.hs;have own2:∀n,eZ σ2 (bB mB) n->eZ σ (bB m0) n\/w.heap.size<=n:=λn h=>hr2.mine n (by
  show eZ σ2 (cK _) n;rw[hlkB];exact h)
 have hIf:¬If L:=λh=>by
  rcases hrf.kQ L h with g|g|g
  ·exact hI2 g
  ·exact hnB g
  ·have g':W.heap.size<=L:=g;omega
 have hnf:¬eZ σf (cK y.mm) L:=PM hmf hL2;have up:∀b,b<64->∀z,σ b=some z->σf b=some z:=λb hb' z hz=>by
  have h2:=hr2.keep b z hz;exact hrf.keep b z (by simp only[E2];rw[aZ hb'];exact h2)
 have nm:∀b,aI m0 [] b=true->b<64/\∃k,bB m0 b=some k:=λb hb'=>by
  simp[aI]at hb';exact⟨hb'.1,y7.1 hb'.2⟩
 have gid:∀b,gf [] b=b:=λb=>by simp
 have down:∀b,aI m0 [] b=true->∀z,σf (gf [] b)=some z->σ b=some z:=λb hb' z hz=>by
  obtain⟨h1,k,hk⟩:=nm b hb';obtain⟨z0,hz0,_⟩:=hrm.blk b k hk;have:=up b h1 z0 hz0;rw[gid,this]at hz;rw[hz0];exact hz
 have hblk:∀b k,bB m1 b=some k->∃u,σ b=some u/\σf b=some u/\cK y.mm b=some (k.bU (gf []))/\RB σ If w3 k u/\∀n,hb u=some n->n<w3.heap.size/\¬If n:=by
  intro b k hb';have hmem:=nJ hb';have hpo:=hfin.post _ hmem;obtain⟨d1,d2⟩:=hfin.wP _ hmem;simp only[gid]at hpo;obtain⟨u,hu,hrb,hnn⟩:=hmf.blk _ _ hpo;refine⟨u,down b d1 u (by rw[gid];exact hu),hu,hpo,?_,λn h=>⟨by rw[h3s];exact(hnn n h).1,(hnn n h).2⟩⟩;refine JB down (hrb.mono (λn h=>h3o n (λe=>hIf (e▸h))) (λ_ h=>h) (λ_ _ h=>h) (λn h=>h3o n (λe=>?_))) d2;subst e;exact hnf ⟨_,_,_,hpo,hu,h⟩
 have ownf:∀n,eZ σ (bB m1) n->eZ σf (cK y.mm) n:=by
  rintro n ⟨b,k,u,h1,h2,h3⟩;obtain⟨u',g1,g2,g3,_,_⟩:=hblk b k h1;rw[h2]at g1;cases g1;exact⟨b,_,u,g3,g2,h3⟩
 have mine2:∀n,eZ σf (cK y.mm) n->eZ σ (bB m0) n\/w.heap.size<=n:=λn h=>by
  rcases hrf.mine n h with g|g
  ·exact own2 n g
  ·have g':W.heap.size<=n:=g;exact .inr (by omega)
 refine⟨rfl,If,?_⟩;refine⟨h3os.trans (hrf.os.trans (hWos.trans hr2.os)),h3tape.trans (hrf.tape.trans (hWtape.trans hr2.tape)),h3out.trans (hrf.output.trans (hWout.trans hr2.output)),by omega,λ_ _ h=>h,λb h1 h2=>absurd h1 h2,λn h=>hrf.i0 n (hr2.i0 n h),λn h=>by rw[h3s];exact hrf.ib n h,λn h=>?_,λn h1 h2=>?_,⟨λb k hb'=>?_,λb b' k k' u u' n q1 q2 q3 q4 q5 q6=>?_⟩,λb k hb'=>?_,λn h=>mine2 n (ownf n h)⟩
 ·rcases hrf.kQ n h with g|g|g
  ·rcases hr2.kQ n g with g|g|g
   ·exact .inl g
   ·exact .inr (.inr g)
   ·exact .inr (.inl g)
  ·rcases own2 n g with g|g
   ·exact .inr (.inr g)
   ·exact .inr (.inl g)
  ·have g':W.heap.size<=n:=g;exact .inr (.inl (by omega))
 ·by_cases e:n=L
  ·subst e;rw[h3L,hL]
  ·rw[h3o n e,hrf.frame n (by show n<W.heap.size;omega) (λh=>?_),hWo n e]
   ·exact hr2.frame n h1 h2
   ·rcases own2 n h with g|g
    ·exact h2 g
    ·omega
 ·obtain⟨u,g1,g2,g3,g4,g5⟩:=hblk b k hb';exact⟨u,g1,g4,g5⟩
 ·obtain⟨v,g1,g2,g3,g4,g5⟩:=hblk b k q1;obtain⟨v',g1',g2',g3',g4',g5'⟩:=hblk b' k' q2;rw[q3]at g1;cases g1;rw[q4]at g1';cases g1';exact hmf.apart _ _ _ _ _ _ n g3 g3' g2 g2' q5 q6
 ·obtain⟨h1,q,hq'⟩:=nm b (hfin.wP _ (nJ hb')).1;left;rw[hq'];simp
theorem zda {E:Ctx}{w w':World}{σ σf:Names}{I If:Nat->Prop}{a:Act}{y:X}{m0 m1:List (Nat×aY)}(hw0:E.w0=w)(hbor:E.uJ=eZ σ (bB m0))(hI0:E.I0=I)(hs0:E.s0=σ)
  (hrm:RM σ I w (bB m0)) (hrf:pF E y.den σf If a w') (hfin:y4 (cK y.mm) (.d (.v undef)) m0 (.d (.v undef)) m1 []):eG σ I w (bB m0) 64 σ If w' (bB m1):=by
 subst hw0 hI0 hs0;have hmf:RM σf If w' (cK y.mm):=hrf.mm;have nm:∀b,aI m0 [] b=true->b<64/\∃k,bB m0 b=some k:=λb hb'=>by
  simp[aI]at hb';exact⟨hb'.1,y7.1 hb'.2⟩
 have gid:∀b,gf [] b=b:=λb=>by simp
 have down:∀b,aI m0 [] b=true->∀z,σf (gf [] b)=some z->E.s0 b=some z:=λb hb' z hz=>by
  obtain⟨h1,k,hk⟩:=nm b hb';obtain⟨z0,hz0,_⟩:=hrm.blk b k hk;have:=hrf.keep b z0 hz0;rw[gid,this]at hz;rw[hz0];exact hz
 have hblk:∀b k,bB m1 b=some k->∃u,E.s0 b=some u/\σf b=some u/\cK y.mm b=some (k.bU (gf []))/\RB E.s0 If w' k u/\∀n,hb u=some n->n<w'.heap.size/\¬If n:=by
  intro b k hb';have hmem:=nJ hb';have hpo:=hfin.post _ hmem;obtain⟨d1,d2⟩:=hfin.wP _ hmem;simp only[gid]at hpo;obtain⟨u,hu,hrb,hnn⟩:=hmf.blk _ _ hpo;exact⟨u,down b d1 u (by rw[gid];exact hu),hu,hpo,JB down hrb d2,hnn⟩
 have mine:∀n,eZ σf (cK y.mm) n->eZ E.s0 (bB m0) n\/E.w0.heap.size<=n:=λn h=>by
  have:=hrf.mine n h
  rwa[hbor]at this
 refine⟨hrf.os,hrf.tape,hrf.output,hrf.hs,λ_ _ h=>h,λb h1 h2=>absurd h1 h2,λn h=>hrf.i0 n h,hrf.ib,λn h=>?_,λn h1 h2=>hrf.frame n h1 (by rw[hbor];exact h2),⟨λb k hb'=>?_,λb b' k k' u u' n q1 q2 q3 q4 q5 q6=>?_⟩,λb k hb'=>?_,λn h=>?_⟩
 ·rcases hrf.kQ n h with g|g|g
  all_goals simp_all
 ·grind
 ·obtain⟨v,g1,g2,g3,g4,g5⟩:=hblk b k q1;obtain⟨v',g1',g2',g3',g4',g5'⟩:=hblk b' k' q2;rw[q3]at g1;cases g1;rw[q4]at g1';cases g1';exact hmf.apart _ _ _ _ _ _ n g3 g3' g2 g2' q5 q6
 ·obtain⟨h1,q,hq'⟩:=nm b (hfin.wP _ (nJ hb')).1;left;rw[hq'];simp
 ·obtain⟨b,k,u,h1,h2,h3⟩:=h;obtain⟨u',g1,g2,g3,_,_⟩:=hblk b k h1;rw[h2]at g1;cases g1;exact mine n ⟨b,_,u,g3,g2,h3⟩
def JC (s0:Names)(L:Nat)(r:Loop):Names->(Nat->Prop)->World->Prop:=λσ I w=>(∀b x,s0 b=some x->σ b=some x)/\w.heap[L]? =some (.loop r)/\¬I L
theorem JC.zeC {E:Ctx}{s0:Names}{L:Nat}{r:Loop}{m0:List (Nat×aY)}{I0:Nat->Prop}(hs0:E.s0=s0)(hI0:E.I0=I0)(hbor:E.uJ=eZ s0 (bB m0))(hrm:RM s0 I0 E.w0 (bB m0))(hL:E.w0.heap[L]? =some (.loop r))(hI:¬I0 L):
  ∀s σ I a w,pF E s σ I a w->JC s0 L r σ I w:=by
 intro s σ I a w hr;have hlt:L<E.w0.heap.size:=(qZ.1 hL).1;have hnb:¬E.uJ L:=by rw[hbor];exact PM hrm hL
 refine⟨λb x h=>hr.keep b x (by rw[hs0];exact h),(hr.frame L hlt hnb).trans hL,λh=>?_⟩;rcases hr.kQ L h with g|g|g
 all_goals grind
def CP (m0 m1:List (Nat×aY)):aN:=⟨.d (.v (.bool true)),[],m0.map λp=>(p.1,bB m1 p.1)⟩
theorem Ax {m0:List (Nat×aY)}{f:Nat->Option aY}(b:Nat):wrote (m0.map λp=>(p.1,f p.1)) b=if(bB m0 b).isSome then some (f b)else none:=by
 induction m0 with
 |nil=>simp
 |cons p m ih=>
  obtain⟨c,k⟩:=p;simp
  grind
theorem Tp {m0 m1:List (Nat×aY)}{mem:Mem}(hk:∀b k,bB m0 b=some k->mem b=some k):(CP m0 m1).mr mem=bB m0:=by
 funext b
 simp only[aN.mr,CP,Ax];cases h:bB m0 b with
 |none=>simp
 |some k=>simpa using hk b k h
theorem Tn {m0 m1:List (Nat×aY)}{mem:Mem}(hs:∀b k,bB m1 b=some k->(bB m0 b).isSome=true):(CP m0 m1).mw mem=bB m1:=by
 funext b
 simp only[aN.mw,CP,Ax];cases h:bB m0 b with
 |none=>
  cases h1:bB m1 b with
  |none=>rfl
  |some k=>have:=hs b k h1;rw[h]at this;cases this
 |some k=>simp
theorem eG.zeD {σ:Names}{I I':Nat->Prop}{w w':World}{m0 m1:List (Nat×aY)}{nm:Nat}(hid:∀p∈m1,p.2.bU id=p.2)(h0:∀p∈m0,p.1<64)(h1:∀p∈m1,p.1<64)
  (hs:∀b k,bB m1 b=some k->(bB m0 b).isSome=true)
  (hp:eG (λb=>if b<64 then σ b else none) I w (bB m0) 64 (λb=>if b<64 then σ b else none) I' w' (bB m1)):eG σ I w (bB m0) nm σ I' w' (bB m1):=by
 have low:∀b,b<64->∀x,σ b=some x->(λb=>if b<64 then σ b else none) b=some x:=λb hb x hx=>by simp only[aZ hb];exact hx
 have up:∀b x,(λb=>if b<64 then σ b else none) b=some x->σ b=some x:=λb x hx=>by
  simp_all
 have own:∀(m:List (Nat×aY)),(∀p∈m,p.1<64)->∀n,eZ σ (bB m) n↔eZ (λb=>if b<64 then σ b else none) (bB m) n:=λm hm n=>
  ⟨λ⟨b,k,x,a1,a2,a3⟩=>⟨b,k,x,a1,low b (hm _ (nJ a1)) x a2,a3⟩,λ⟨b,k,x,a1,a2,a3⟩=>⟨b,k,x,a1,up b x a2,a3⟩⟩
 refine⟨hp.os,hp.tape,hp.output,hp.size,λ_ _ h=>h,λb h1 h2=>absurd h1 h2,hp.vH,hp.ib,λn h=>?_,λn a1 a2=>hp.frame n a1 (λh=>a2 ((own m0 h0 n).2 h)),⟨λb k hb'=>?_,λb b' k k' u u' n q1 q2 q3 q4 q5 q6=>?_⟩,λb k hb'=>?_,λn h=>?_⟩
 ·rcases hp.kQ n h with g|g|g
  all_goals grind
 ·obtain⟨u,g1,g2,g3⟩:=hp.mem.blk b k hb';exact⟨u,up b u g1,g2.mono (λ_ _=>rfl) (λ_ h=>h) up (λ_ _=>rfl),g3⟩
 ·exact hp.mem.apart b b' k k' u u' n q1 q2 (low b (h1 _ (nJ q1)) u q3) (low b' (h1 _ (nJ q2)) u' q4) q5 q6
 ·grind
 ·rcases hp.mine n ((own m1 h1 n).1 h)with g|g
  all_goals grind
theorem RM.Vw {σ:Names}{I:Nat->Prop}{w:World}{m0:List (Nat×aY)}(h0:∀p∈m0,p.1<64/\aJ (λb=>decide (b<64)) p.2=true/\p.2.bU id=p.2)(h:RM σ I w (bB m0)):RM (λb=>if b<64 then σ b else none) I w (bB m0):=by
 have low:∀b,b<64->∀x,σ b=some x->(λb=>if b<64 then σ b else none) b=some x:=λb hb x hx=>by simp only[aZ hb];exact hx
 have up:∀b x,(λb=>if b<64 then σ b else none) b=some x->σ b=some x:=λb x hx=>by
  simp_all
 refine⟨λb k hb=>?_,λb b' k k' u u' n q1 q2 q3 q4 q5 q6=>h.apart b b' k k' u u' n q1 q2 (up b u q3) (up b' u' q4) q5 q6⟩;obtain⟨u,g1,g2,g3⟩:=h.blk b k hb;obtain⟨p1,p2,p3⟩:=h0 _ (nJ hb);refine⟨u,low b p1 u g1,?_,g3⟩;refine JB (σ:=σ) (g:=id) (p:=λb=>decide (b<64)) (λb hb x hx=>low b (by simpa using hb) x hx) ?_ p2;rw[p3];exact g2
theorem CI.yield {P:Program}{nt ntA L dp:Nat}{r:Loop}{tmA tmB:List (Nat×AV)}{m0 m1 mB:List (Nat×aY)}{nxB:Nat}{s0:Names}{R:Exit->X->Prop}{ops:Array Oper}{o:Oper}{rest:List Oper}{i:Nat}{ft:List (List Nat×List Nat)}{draw:Bool}{k:List It}{x:X}{c:Call}{q:Nat}
  (hm:P.follows .mixedOrders=true) (hrs:r.state=.ready) (hrp:r.pending=none) (hsz:r.tmps.size=ntA)
  (hA:CI (some L) (dp-1) (λ_ _ _=>True) P ntA (λe x=>e=.normal/\AI.Sub x tmB mB nxB []) [.code r.assign] ⟨tmA,m0.map (λp=>(p.1,some p.2)),64⟩)
  (hB:CI (some L) (dp-1) (λ_ _ _=>True) P ntA (OW m0 m1) [.code r.body] ⟨tmB,mB.map (λp=>(p.1,some p.2)),nxB⟩)
  (hdst:lY nt o.dst=true) (hg:o.guard=none\/∃g wa,o.guard=some (g,wa)/\pB ops g (cI x.tm)=some wa)
  (ho:o.op=.call c) (hc:c.callee=.value (.tmp q)) (hq:cI x.tm q=.d (.fn (.yield L) [] [])) (hps:c.args.size=r.params.size)
  (hT:∀(σ:Names) (I:Nat->Prop) (w:World) (vs:List Value),(∀b x,s0 b=some x->b<64->σ b=some x)->vs.length=c.args.size->(∀(i:Nat) y v,(c.args.toList.map (ev (cI x.tm)))[i]? =some y->vs[i]? =some v->fH (λb=>decide (b<64)) y=true->y.bU id=y->RV σ I w y v)->
    ∀t,RV σ I w (cI tmA t) (((r.params.zip vs.toArray).foldl (λtmps (t,a)=>tmps.setIfInBounds t a) r.tmps).getD t undef))
  (hp0:∀p∈m0,p.1<64/\aJ (λb=>decide (b<64)) p.2=true/\p.2.bU id=p.2) (hp1:∀p∈m1,p.1<64/\p.2.bU id=p.2)
  (hsub:∀p∈m1,(bB m0 p.1).isSome=true) (hk:∀p∈m0,cK x.mm p.1=some p.2)
  (h:CI none dp (JC s0 L r) P nt R (.ops ops rest (i+1) (ft++[(CP m0 m1).qQ]) draw::k) (x.app o.dst (CP m0 m1))):CI none dp (JC s0 L r) P nt R (.ops ops (o::rest) i ft draw::k) x:=by
 refine .op (CP m0 m1) hdst hg ?_ h;have hs:∀b k,bB m1 b=some k->(bB m0 b).isSome=true:=λb k h=>hsub _ (nJ h);have hk':∀b k,bB m0 b=some k->cK x.mm b=some k:=λb k h=>hk _ (nJ h);rw[Tp hk',Tn hs];intro a w σ I hJ hib hv hrm hfr next Q hnx;obtain⟨hkeep,hL,hI⟩:=hJ;have harg:∀y∈c.args.toList,RV σ I w (ev (cI x.tm) y) (a.eval y):=λy hy=>dG λs e=>hv s (by subst e;simp[ho,Op.operands,Call.operands];exact .inr (by simpa using hy));have hf:a.tmps.getD q undef=.func (.yield L) #[] #[]:=by
  have:=hv q (by simp[ho,Op.operands,Call.operands,hc]);rw[hq]at this;generalize a.tmps.getD q undef=z at this;cases this with
  |d h=>cases h with
   | @fn f first captured xs ys hx hy h1 h2=>
     have e1:xs=[]:=kH (by simpa using hx);have e2:ys=[]:=kH (by simpa using hy);subst e1 e2;rfl
 let vs:=c.args.toList.map a.eval
 have hvs:(c.args.map a.eval)=vs.toArray:=by apply Array.ext';simp[vs]
 have hrun:(execOp a.eval o).run P w=.ok (.round L r.fn ((r.params.zip vs.toArray).foldl (λtmps (t,a)=>tmps.setIfInBounds t a) r.tmps) r.assign r.body) w:=by
  have e0:a.eval (.tmp q)=.func (.yield L) #[] #[]:=hf;have e4:=run_yield (P:=P) (w:=w) (args:=vs.toArray) hL (by simp[vs,hps]);have e5:(#[]:Array Value)++c.args.map a.eval++#[]=vs.toArray:=by rw[hvs];simp
  rw[<-e4];simp[execOp,ho,resolve,hc,e0,Deferred.ofValue,invoke,hvs]
 refine⟨λ_ _=>trivial,?_⟩;show Oper.uponIn (FW none) dp P o a next Q ((execOp a.eval o).run P w);rw[hrun,Oper.uponIn_round];refine⟨by simp[FW,Fence.wide],?_⟩;have hlen:vs.length=c.args.size:=by simp[vs]
 let σ1:Names:=λb=>if b<64 then σ b else none
 have hfold:∀(ps:List (Nat×Value)) (T:Array Value),(ps.foldl (λtmps (p:Nat×Value)=>tmps.setIfInBounds p.1 p.2) T).size=T.size:=by
  intro ps;induction ps with
  |nil=>intro T;rfl
  |cons p ps ih=>intro T;rw[pH,ih];simp
 have hTsz:((r.params.zip vs.toArray).foldl (λtmps (t,a)=>tmps.setIfInBounds t a) r.tmps).size=ntA:=by
  rw[<-hsz,<-Array.foldl_toList];exact hfold _ _
 have hro:=zb3 (P:=P) (nt:=ntA) (dp:=dp-1) hm hrs hrp hA hB (T:=(r.params.zip vs.toArray).foldl (λtmps (t,a)=>tmps.setIfInBounds t a) r.tmps) (w:=w) (σ:=σ1) (I:=I) hib hTsz
  (hT σ1 I w vs (λb y h1 h2=>by simp only[σ1,aZ h2];exact hkeep b y h1) hlen (λi y v h1 h2 h3 h4=>by
    simp only[jX,vs]at h1 h2;obtain⟨z,hz,rfl⟩:=sM.1 h1;rw[hz]at h2;simp at h2;subst h2;refine ML (σ:=σ) (g:=id) (p:=λb=>decide (b<64)) (λb hb x hx=>by simp only[σ1];rw[aZ (by simpa using hb)];exact hx) (harg z (gT hz)) h4.symm h3))
  (RM.Vw hp0 hrm) (λb hb=>by simp only[σ1];rw[aT (by omega)]) hL hI
 refine RoundIn.mono hro ?_;rintro e w' ⟨rfl,I',hp⟩;refine hnx _ σ I' w' ?_ (.d (.v _));exact eG.zeD (λp hp=>(hp1 p hp).2) (λp hp=>(hp0 p hp).1) (λp hp=>(hp1 p hp).1) hs hp
theorem T7 {E:Ctx}{P:Program}{nt dp:Nat}{c d:Code}{x:X}{tm:List (Nat×AV)}{m:List (Nat×aY)}{nx:Nat}{gv:List Nat}(hm:P.follows .mixedOrders=true)(hP:E.P=P)(hn:E.nt=nt)
  (hc:CI none dp (λ_ _ _=>True) P nt (λe y=>e=.normal/\AI.Sub y tm m nx gv) [.code c] x) {Q:Exit->Act->World->Prop} {a:Act} {w:World} (hr:Rel E x.den a w)
  (h:∀a' w',Rel E (X.den ⟨tm,m.map (λp=>(p.1,some p.2)),nx⟩) a' w'->d.wpIn (FW none) dp P Q a' w'):(c.seq d).wpIn (FW none) dp P Q a w:=by
 refine wpIn_seq ?_;subst hP;have hw:=(AO hm hc E rfl hn (λ_ _ _ _ _ _=>trivial)).1 rfl _ w hr;refine AP hw (λe a1 w1 hq=>?_);obtain⟨y,hy,rfl,hsub⟩:tE E (λe y=>e=.normal/\AI.Sub y tm m nx gv) e a1 w1:=by
  cases e<;>simpa[eE]using hq
 exact h a1 w1 (Rel.sub hsub hy)
end Go.AI
section
namespace Go.AI
section
variable {bn : List Nat} {nm : Nat} {args : List AV} {mr m m' : List (Nat × aY)} {res : AV} {mem : Mem} {G : (Nat -> Prop) -> World -> Prop}
theorem zer {dp:Nat}{P:Program}{o:Oper}{c:Call}{fo:Operand}(ho:o.op=.call c)(hc:c.callee=.value fo)(tm:Nat->AV)(mem:Mem)(nm:Nat){f:FuncId}{first captured:List AV}
  (hf:sG (ev tm fo)=some (f,first,captured)) (hen:Enters P f) (hct:eL G P f args mr m res m') (ha:eQ.leL (first++c.args.toList.map (ev tm)++captured) (args.map (AV.bU (dO bn nm)))) (hn:y5 bn args mr m res m')
  (hk:∀p∈mr++m,mem (dO bn nm p.1)=some (p.2.bU (dO bn nm))):
  EA none dp (JG G) P o tm ((kR bn nm mr m res m').mr mem) nm (kR bn nm mr m res m').res ((kR bn nm mr m res m').mw mem):=by
 intro a w σ I hG h1 h2 h3 h4 next Q hnx;refine T5 (by simp[xF,ho]) ?_;obtain⟨vs,hrun,hcall⟩:=ZQ ho hc hf hen hct ha hn hk hG h1 h2 h3 h4;simp only[Oper.wp,hrun];refine hcall.mono λe w' ⟨v,σ',I',he,hp,hv⟩=>?_;subst he;exact hnx v σ' I' w' hp hv
end
theorem CI.zjA {G:(Nat->Prop)->World->Prop}{dp:Nat}{P:Program}{nt:Nat}{R:Exit->X->Prop}{ops:Array Oper}{o:Oper}{rest:List Oper}{i:Nat}{ft:List (List Nat×List Nat)}{draw:Bool}{k:List It}{x:X}{c:Call}{fo:Operand}{f:FuncId}{first captured:List AV}{args:List AV}{mr m m':List (Nat×aY)}{res:AV}(bn:List Nat)
  (hct:eL G P f args mr m res m') (hen:Enters P f) (ho:o.op=.call c) (hc:c.callee=.value fo) (hdst:lY nt o.dst=true) (hg:o.guard=none\/∃g wa,o.guard=some (g,wa)/\pB ops g (cI x.tm)=some wa)
  (hf:sG (ev (cI x.tm) fo)=some (f,first,captured)) (ha:eQ.leL (first++c.args.toList.map (ev (cI x.tm))++captured) (args.map (AV.bU (dO bn (x.nx+64*i))))) (hn:y5 bn args mr m res m')
  (hk:∀p∈mr++m,cK x.mm (dO bn (x.nx+64*i) p.1)=some (p.2.bU (dO bn (x.nx+64*i))))
  (h:CI none dp (JG G) P nt R (.ops ops rest (i+1) (ft++[(kR bn (x.nx+64*i) mr m res m').qQ]) draw::k) (x.app o.dst (kR bn (x.nx+64*i) mr m res m'))):CI none dp (JG G) P nt R (.ops ops (o::rest) i ft draw::k) x:=
 .op _ hdst hg (zer ho hc _ _ _ hf hen hct ha hn hk) h
section
variable {ro : Option Nat} {dp : Nat} {J : Names -> (Nat -> Prop) -> World -> Prop}
end
end Go.AI
open Go.RowKit
namespace Go.AI
theorem eL.Jw {G:(Nat->Prop)->World->Prop}{P:Program}{f:FuncId}{args:List AV}{mr:List (Nat×aY)}{r:Value}
  (h:∀(σ:Names) (I:Nat->Prop) (w:World) (vs:List Value),G I w->(∀n,I n->n<w.heap.size)->vs.length=args.length->(∀(i:Nat) c x,args[i]? =some c->vs[i]? =some x->RV σ I w c x)->RM σ I w (bB mr)->
    Calls P f vs.toArray w λe w'=>e=.returned r/\Below w.heap.size w w'/\w.drawn<=w'.drawn):eL G P f args mr [] (.d (.v r)) []:=by
 intro σ I w vs hG hI hl ha hm hn;rw[MZ]at hm⊢;refine(h σ I w vs hG hI hl ha hm).mono λe w' ⟨h1,hb,hd⟩=>⟨r,σ,I,h1,?_,.d (.v r)⟩;refine⟨hb.os,hb.tape,⟨hb.output,hd⟩,hb.size,λ_ _ h=>h,λ_ h h'=>absurd h h',λ_ h=>h,λn hn=>AU (hI n hn) hb.size,λ_ h=>.inl h,λn hn _=>hb.block n hn,?_,λb k h=>.inl (by rw[h];simp),λn ho=>.inl ho⟩;refine⟨λb k hb'=>?_,hm.apart⟩;obtain⟨x,h1,h2,h3⟩:=hm.blk b k hb';exact⟨x,h1,h2.mono (λn hn=>hb.block n (hI n hn)) (λ_ h=>h) (λ_ _ h=>h) (λn hn=>hb.block n (h3 n hn).1),λn hn=>⟨AU (h3 n hn).1 hb.size,(h3 n hn).2⟩⟩
end Go.AI
namespace Go.AI
end Go.AI
namespace Go.AI
theorem CI.WI {ro:Option Nat}{dp:Nat}{J:Names->(Nat->Prop)->World->Prop}{P:Program}{nt:Nat}{R:Exit->X->Prop}{ops:Array Oper}{o:Oper}{rest:List Oper}{i:Nat}{ft:List (List Nat×List Nat)}{draw:Bool}{k:List It}{x:X}(gv:List Nat)(st n:Nat)(hk:clean k=true)(hdst:lY nt o.dst=true)(hg:o.guard=none\/∃g wa,o.guard=some (g,wa)/\pB ops g (cI x.tm)=some wa)
  (hgv:∀b,b∈gv->(cK x.mm b).isSome=true)
  (h:match wV P o (BT gv x) (rI gv (cK x.mm)) (x.nx+64*i)with
    |some (sc,e)=>sc/\AI.bP ro dp J P nt R st n (.ops ops rest (i+1) (ft++[(FL e gv).qQ]) draw::k) (x.app o.dst (FL e gv))
    |none=>False):CI ro dp J P nt R (.ops ops (o::rest) i ft draw::k) x:=by
 split at h
 ·rename_i sc e hr;exact .op _ hdst hg (bJ.rR (Tc hr) (bJ.give gv hgv (Tb hr h.1))) (.A8 st n hk h.2)
 ·exact h.elim
end Go.AI
end
namespace Go.AI
theorem bN.bnd {P:Program}{f:FuncId}{args:List AV}{first:List D}{res:AV}(h:Ct P f (first.map .d++args) [] [] res [])(he:Enters P f)(h1:fH.iU (λb=>decide (b<0)) (first.map .d++args)=true)(h2:fH (jB 0) res=true):bN P (.d (.fn (.func f) first [])) args res:=
 ⟨f,first.map .d,[],rfl,he,by simpa using h,by simpa using h1,h2⟩
theorem Xg {σ:Names}{I:Nat->Prop}{w:World}{sz i l:Nat}{es:List (List D)}{T:TypeId}{y v:Value}(hb0:RB σ I w (.grow sz es T) y)(hs:MJ sz y i l v)(hi:i=0)(hl:l<=es.length):
  (∀σ':Names,RB σ' I w (.grow sz (es.take l) T) v)/\v.oneCell'=true/\∀n,hb v=some n->hb y=some n:=by
 subst hi;cases hs with
 |nil=>exact⟨λ_=>by simpa using RB.none,rfl,λn h=>h⟩
 |none a=>exact⟨λ_=>by simpa using RB.emp a,rfl,λn h=>by simp[hb]at h⟩
 | @some n len cap _ _ c hc hlc=>
   cases hb0 with
   |emp=>
    have:c=0:=by omega
    subst this;have:l=0:=by omega
    subst this;exact⟨λ_=>by simpa using RB.emp _,rfl,λn h=>by simp[hb]at h⟩
   | @grow _ _ _ _ _ arr hw h1 hcap hmax hsz hr=>
     refine⟨λσ'=>?_,rfl,λm h=>?_⟩
     ·have e:(es.take l).length=l:=by rw[CL];omega
      have:=RB.grow (σ:=σ') (I:=I) (w:=w) (sz:=sz) (es:=es.take l) (T:=T) (n:=n) (cap:=c) (arr:=arr) hw (dH (oQ _ (by omega)) h1) (by rw[e];exact hlc) (by omega) (λe he=>hsz e (pY he))
       (λi e j c h1 h2=>hr i e j c (by rw[List.getElem?_take]at h1;split at h1<;>simp_all) h2)
      rw[e]at this;simpa using this
     ·cases c with
      |zero=>simp[hb]at h
      |succ c=>
       cases cap with
       |zero=>omega
       |succ cap=>simpa[hb]using h
theorem Ct.NH {P:Program}{f:FuncId}{args:List AV}{k0:aY}{sz i:Nat}{es:List (List D)}{T:TypeId}{r:AV}(hr:r=.own 0/\i=es.length\/r=.sl 0 sz 0 i)(hi:i<=es.length)
  (h:Ct P f args [] [(0,k0)] r [(0,.grow sz es T)]):Ct P f args [] [(0,k0)] (.own 64) [(64,.grow sz (es.take i) T)]:=by
 intro σ I w vs hI hl ha hm h64;refine(h σ I w vs hI hl ha hm h64).mono ?_;rintro e w' ⟨v,σ',I',rfl,hp,hv⟩;obtain⟨y,hy,hb0,hbn⟩:=hp.mem.blk 0 _ rfl;have key:(∀σ':Names,RB σ' I' w' (.grow sz (es.take i) T) v)/\v.oneCell'=true/\∀n,hb v=some n->hb y=some n:=by
  rcases hr with⟨rfl,rfl⟩|rfl
  ·cases hv with
   |own h1 h2=>
    rw[hy]at h1;cases h1;refine⟨λσ''=>?_,h2,λn h=>h⟩;rw[bX];cases hb0 with
    |none=>exact .none
    |emp a=>exact .emp a
    |grow hw a1 a2 a3 a4 a5=>exact .grow hw a1 a2 a3 a4 a5
  ·cases hv with
   |sl h1 h2=>
    rw[hy]at h1;cases h1;exact Xg hb0 h2 rfl hi
 obtain⟨k1,k2,k3⟩:=key
 let σ'':Names:=λb=>if b=64 then some v else if b<64 then σ' b else none
 have e64:σ'' 64=some v:=rfl;refine⟨v,σ'',I',rfl,⟨hp.os,hp.tape,hp.output,hp.size,?_,?_,hp.vH,hp.ib,hp.kQ,hp.frame,⟨?_,?_⟩,?_,?_⟩,.own e64 k2⟩
 ·intro b x hb;have:b<64:=by
   rcases y9 b 64 with h|h
   ·exact h
   ·rw[h64 b h]at hb;cases hb
  have hne:b≠64:=by omega
  simp only[σ'',aT hne,aZ this];exact hp.names b x hb
 ·intro b hb hn;by_cases h:b=64
  ·subst h;exact⟨bY _,by omega⟩
  ·by_cases h':b<64
   ·simp only[σ'',aT h,aZ h']at hn;exact hp.new b hb hn
   ·simp only[σ'',aT h,aT h',ne_eq,EC]at hn
 ·intro b k hk;by_cases h:b=64
  ·subst h;simp at hk;subst hk;exact⟨v,e64,k1 _,λn hn=>hbn n (k3 n hn)⟩
  ·simp at hk;exfalso;omega
 ·intro b b' k k' x x' n h1 h2 h3 h4 h5 h6;have hb1:b=64:=by
   by_cases h:b=64
   ·exact h
   ·simp at h1;exfalso;omega
  have hb2:b'=64:=by
   by_cases h:b'=64
   ·exact h
   ·simp at h2;exfalso;omega
  rw[hb1,hb2]
 ·intro b k hk;by_cases h:b=64
  ·exact Or.inr ⟨by omega,by omega⟩
  ·simp at hk;exfalso;omega
 ·rintro n ⟨b,k,x,h1,h2,h3⟩;have hb1:b=64:=by
   by_cases h:b=64
   ·exact h
   ·simp at h1;exfalso;omega
  subst hb1;rw[e64]at h2;cases h2;exact hp.mine n ⟨0,_,y,rfl,hy,k3 n h3⟩
theorem CI.zaZ {dp:Nat}{J:Names->(Nat->Prop)->World->Prop}{P:Program}{nt:Nat}{R:Exit->X->Prop}(hm:P.follows .mixedOrders=true)(hp:Plain R){c d:Code}{k:List It}{x:X}(hk:clean k=true)(h:CI none dp J P nt R (.code c:: .code d::k) x):CI none dp J P nt R (.code (.seq c (.scope d))::k) x:=by
 refine CI.Qi hk λE hP hn hJ a w hr=>?_;have h1:=CI.wp hm h (by simpa[clean,j7]using hk) E hP hn hJ a w hr;refine wp_seq (wp_mono h1 (λe a w h=>?_));cases e<;>simp only[eE,Exit.then]at h⊢<;>try exact h
 refine wp_scope_straight (wp_mono ((wpIn_wide (n:=dp)).1 h) (λe a w h=>?_));cases e<;>simp only[Exit.noGoto]<;>first|exact h|exact absurd h (S9 (.inl ⟨_,rfl⟩) (hp.1 _) k)
abbrev DC (v:Value):List PanicEntry:=[{v:=v,recovered:=false}]
def tL (P:Program)(f:FuncId)(args:List AV)(mr m:List (Nat×aY))(v:Value)(m':List (Nat×aY)):Prop:=MN (λ_ _=>True) (λ_=>.panicked (DC v)) P f args mr m .any m'
def Ih (v:Value)(m m':List (Nat×aY)):Exit->X->Prop:=λe x=>e=.panic (DC v)/\y4 (cK x.mm) (.d (.v undef)) m (.d (.v undef)) m' []
section
variable {P : Program} {nt : Nat} {R : Exit -> X -> Prop} {ops : Array Oper} {o : Oper} {rest : List Oper} {i : Nat} {ft : List (List Nat × List Nat)} {k : List It} {x : X} {c : Call} {fo : Operand} {f : FuncId} {fs cap args : List AV} {mr m m' : List (Nat × aY)} {fn : Func} {cd : Code} {v : Value}
theorem tL.B (hf:P.funcs[f]? =some fn)(hm:P.follows .mixedOrders=true)(st n:Nat)(h:AI.bP none 0 J0 P fn.ntmps (Ih v (mr++m) (mr++m')) st n [.code cd] ⟨uF 0 args,(mr++m).map (λp=>(p.1,some p.2)),64⟩)(hb:fn.body=some cd:=by rfl)(hn:args.length<=fn.ntmps:=by simp):tL P f args mr m v m':=by
 intro σ I w vs _ hib hl hv hrm hfree;refine calls_of_wp hf hb ?_
 let E:Ctx:={P:=P,w0:=w,uJ:=eZ σ (bB (mr++m)),I0:=I,nt:=fn.ntmps,s0:=σ}
 refine wp_mono (CI.wp hm (.run st n rfl h) rfl E rfl rfl (λ_ _ _ _ _ _=>trivial) _ w (Gd (E:=E) rfl rfl rfl rfl hn hib hl hv hrm hfree)) (λe a w' hq=>?_);obtain⟨x,⟨σf,If,hr⟩,rfl,hfin⟩:tE E (Ih v (mr++m) (mr++m')) e a w':=by
  cases e<;>simpa[eE]using hq
 obtain⟨σ',I',hp,hrv⟩:=Hp (E:=E) rfl rfl rfl rfl hrm hfree hr hfin (.d (.v undef));exact⟨hr.wQ,undef,σ',I',rfl,hp,.any _⟩
theorem CI.up {ro:Option Nat}{dp:Nat}{J:Names->(Nat->Prop)->World->Prop}(bn:List Nat)(hct:tL P f args mr m v m')(hen:Enters P f)(h:R (.panic (DC v)) ⟨x.tm,(kR bn (x.nx+64*i) mr m .any m').wr++x.mm,x.nx+64*(i+1)⟩)
  (ho:o.op=.call c:=by rfl) (hc:c.callee=.value fo:=by rfl) (hg:o.guard=none:=by rfl) (hf:sG (ev (cI x.tm) fo)=some (f,fs,cap):=by rfl)
  (ha:eQ.leL (fs++c.args.toList.map (ev (cI x.tm))++cap) (args.map (AV.bU (dO bn (x.nx+64*i)))):=by simp) (hn:y5 bn args mr m .any m':=by constructor<;>simp[jB])
  (hk:∀p∈mr++m,cK x.mm (dO bn (x.nx+64*i) p.1)=some (p.2.bU (dO bn (x.nx+64*i))):=by simp):CI ro dp J P nt R (.ops ops (o::rest) i ft false::k) x:=by
 refine .Iw _ (DC v) hg (by simp[xF,ho]) (λE s a w hP hn' ht hm' hfr hr next Q hQ=>?_) h;obtain⟨σ,I,hr⟩:=hr;obtain⟨vs,hrun,hcall⟩:=ZQ (a:=a) (w:=w) (nm:=x.nx+64*i) ho hc (tm:=s.tm) (mem:=s.mm) (by rw[ht];exact hf) hen hct (by rw[ht];exact ha) hn (by rw[hm'];exact hk) trivial hr.ib (λt _=>hr.tm t) (hr.mm.sub aN.XH) (λb hb=>hr.free b (hfr b hb.1));simp only[Oper.wp,hrun];refine hcall.mono λe w' ⟨v',σ',I',he,hp,hv⟩=>?_;subst he;have h':=hr.step (dst:=none) aN.XH hp hv (λ_ h=>by cases h);rw[<-S.ZY]at h';refine hQ a w' (Rel.fr ⟨σ',I',h'⟩ ?_ ?_ λb hb=>?_)
 ·funext t;simp[X.den,S.app,ht]
 ·funext b;simp only[X.den,S.app,Mo,hm']
 ·have hb':x.nx+64*(i+1)<=b:=hb;exact⟨hfr b (by omega),λhf=>by have:=hf.2;omega⟩
end
theorem RM.moved {σ:Names}{I:Nat->Prop}{w w':World}{m:Mem}(hm:RM σ I w m)(hs:w.heap.size<=w'.heap.size)(h:∀n,I n\/eZ σ m n->w'.heap[n]? =w.heap[n]?):RM σ I w' m:=by
 refine⟨λb k hb'=>?_,hm.apart⟩;obtain⟨x,h1,h2,h3⟩:=hm.blk b k hb';exact⟨x,h1,h2.mono (λn hn=>h n (.inl hn)) (λ_ h=>h) (λ_ _ h=>h) (λn hn=>h n (.inr ⟨b,k,x,hb',h1,hn⟩)),λn hn=>⟨AU (h3 n hn).1 hs,(h3 n hn).2⟩⟩
theorem Dv (w:World)(a:Addr)(v:Value){n:Nat}(h:n≠a.block):(w.setCell a v).heap[n]? =w.heap[n]? :=by
 simp only[World.setCell,TZ];rw[aT (λe=>h e.symm)]
theorem Hq {σ σ':Names}{I I':Nat->Prop}{w w':World}{m m':Mem}{x v:Value}{T:TypeId}(hrm:RM σ I w m)(hib:∀n,I n->n<w.heap.size)(hp:eG σ I (w.alloc (.cells #[x] T)) m 64 σ' I' w' m'):
  eG σ I w m 64 σ' I' (w'.setCell ⟨w.heap.size,0,none⟩ v) m'/\w'.cell? ⟨w.heap.size,0,none⟩=some x/\w'.frozen? ⟨w.heap.size,0,none⟩=false:=by
 have hsz:(w.alloc (.cells #[x] T)).heap.size=w.heap.size+1:=by simp
 have own:¬eZ σ m w.heap.size:=by
  rintro⟨b,k,y,h1,h2,h3⟩;obtain⟨y',h4,_,h5⟩:=hrm.blk b k h1;simp_all
 have hI:¬I' w.heap.size:=λh=>by
  rcases hp.kQ _ h with h|h|h
  all_goals grind
 have own':¬eZ σ' m' w.heap.size:=λh=>by
  rcases hp.mine _ h with h|h
  ·exact own h
  ·omega
 have hh:w'.heap[w.heap.size]? =some (.cells #[x] T (0,0)):=by
  rw[hp.frame _ (by omega) own];exact ED w _
 have s1:(w'.setCell ⟨w.heap.size,0,none⟩ v).heap.size=w'.heap.size:=by simp
 have s2:=hp.size;refine⟨⟨hp.os,hp.tape,⟨hp.output.eq,hp.output.drawn⟩,by omega,hp.names,hp.new,hp.vH,λn h=>by rw[s1];exact hp.ib n h,λn h=>?_,λn h1 h2=>?_,?_,hp.wP,λn h=>?_⟩,by simp[World.cell?,hh],by simp[World.frozen?,hh]⟩
 ·rcases hp.kQ n h with h|h|h
  ·exact .inl h
  ·exact .inr (.inl (by omega))
  ·exact .inr (.inr h)
 ·rw[Dv _ _ _ (by show n≠w.heap.size;omega),hp.frame n (by omega) h2];exact wX w _ h1
 ·refine hp.mem.moved (by omega) λn h=>Dv _ _ _ ?_;rintro rfl;rcases h with h|h
  ·exact hI h
  ·exact own' h
 ·rcases hp.mine n h with h|h
  ·exact .inl h
  ·exact .inr (by omega)
theorem nT {b:Bool}:((!b)=true)=(b=false):=by cases b<;>simp
theorem nF {b:Bool}:((!b)=false)=(b=true):=by cases b<;>simp
theorem dT {p:Prop} [Decidable p]:(decide p=true)=p:=dA
theorem dF {p:Prop} [Decidable p]:(decide p=false)=¬p:=propext JH
class Nice (t:Bool) (P Q:outParam Prop):Prop where
 a:t=true->P
 b:t=false->Q
instance {p:Prop} [Decidable p]:Nice (decide p) p (¬p):=⟨dT.mp,dF.mp⟩
instance {b:Bool} {P Q:Prop} [h:Nice b P Q]:Nice (!b) Q P:=⟨λe=>h.b (nT.mp e),λe=>h.a (nF.mp e)⟩
instance (priority:=low) {b:Bool}:Nice b (b=true) (b=false):=⟨id,id⟩
theorem bC {α:Type}{l:List α}{k:Nat}(h:k<=l.length)(hw:k<l.length->(k:Int)+1<=9223372036854775807:=by omega):(∃x,∃h:k<l.length,l[k]=x/\l[k]? =some x/\x∈l/\l.take (k+1)=l.take k++[x]/\l.drop k=x::l.drop (k+1)/\IntKind.wrap .i64 ((k:Int)+1)=k+1/\decide (k<l.length)=true)\/k=l.length:=by
 by_cases q:k<l.length
 ·have:=hw q;exact .inl ⟨_,q,rfl,bO q,mF q,by rw[jH,bO q];rfl,tP q,wrap_i64 (by omega) this,oC q⟩
 ·exact .inr (by omega)
theorem inM {α:Type}{l:List α}{k:Nat}(h:k<l.length)(hw:(k:Int)+1<=9223372036854775807:=by omega):∃x,l[k]=x/\l[k]? =some x/\x∈l/\l.take (k+1)=l.take k++[x]/\l.drop k=x::l.drop (k+1)/\IntKind.wrap .i64 ((k:Int)+1)=k+1:=
 ⟨_,rfl,bO h,mF h,by rw[jH,bO h];rfl,tP h,wrap_i64 (by omega) hw⟩
theorem iU {α:Type}{l:List α}{k:Nat}(h:k<l.length):∃x,l[k]=x/\l[k]? =some x/\x∈l/\l.take (k+1)=l.take k++[x]/\l.drop k=x::l.drop (k+1):=
 ⟨_,rfl,bO h,mF h,by rw[jH,bO h];rfl,tP h⟩
theorem wr {k:Nat}(h:(k:Int)+1<=9223372036854775807):IntKind.wrap .i64 ((k:Int)+1)=k+1:=wrap_i64 (by omega) h
abbrev Up {α:Type}(l:List α):Type:={k:Nat//k<=l.length}
section
variable {P : Program} {nt : Nat} {R : Exit -> X -> Prop} {ops : Array Oper} {o : Oper} {rest : List Oper} {i : Nat} {ft : List (List Nat × List Nat)} {d : Bool} {k : List It} {x : X} {c : Call} {fo : Operand} {f : FuncId} {fs cap args : List AV} {mr m m' : List (Nat × aY)} {res kf : AV} {fn : Func} {cd : Code}
theorem Ct.BS (hf:P.funcs[f]? =some fn)(hm:P.follows .mixedOrders=true)(st n:Nat)(h:AI.bP none 0 J0 P fn.ntmps (wH P fn (mr++m) res (mr++m')) st n [.code cd] ⟨uF 0 args,(mr++m).map (λp=>(p.1,some p.2)),64⟩)(hb:fn.body=some cd:=by rfl)(hn:args.length<=fn.ntmps:=by simp):Ct P f args mr m res m':=
 .DF hf hb hm hn (.run st n rfl h)
theorem Ct.B (hf:P.funcs[f]? =some fn)(h:AI.bP none 0 J0 P fn.ntmps (wH P fn (mr++m) res (mr++m')) 99 400 [.code cd] ⟨uF 0 args,(mr++m).map (λp=>(p.1,some p.2)),64⟩)(hm:P.follows .mixedOrders=true:=by decide+kernel)(hb:fn.body=some cd:=by rfl)(hn:args.length<=fn.ntmps:=by simp):Ct P f args mr m res m':=
 .DF hf hb hm hn (.run 99 400 rfl h)
theorem eL.B {G:(Nat->Prop)->World->Prop}(hG:Ad G)(hf:P.funcs[f]? =some fn)(h:AI.bP none 0 (JG G) P fn.ntmps (wH P fn (mr++m) res (mr++m')) 99 400 [.code cd] ⟨uF 0 args,(mr++m).map (λp=>(p.1,some p.2)),64⟩)(hm:P.follows .mixedOrders=true:=by decide+kernel)(hb:fn.body=some cd:=by rfl)(hn:args.length<=fn.ntmps:=by simp):eL G P f args mr m res m':=
 .DF hG hf hb hm hn (.run 99 400 rfl h)
theorem aH.U {ro:Option Nat}{dp:Nat}{J:Names->(Nat->Prop)->World->Prop}(hm:P.follows .mixedOrders=true){α:Type}(l:List α)(tm:Up l->List (Nat×AV))(mm:Up l->List (Nat×aY))(nx:Nat)(gv:List Nat)(h0:Sub x (tm ⟨0,y8 _⟩) (mm ⟨0,y8 _⟩) nx gv)
  (step:∀i (B:X->Prop),(∀x j gv,Sub x (tm j) (mm j) nx gv->l.length-j.1<l.length-i.1->B x)->CI ro dp J P nt R (.code cd:: .stop B::k) ⟨tm i,(mm i).map (λp=>(p.1,some p.2)),nx⟩) (hk:clean k=true:=by rfl):aH ro dp J P nt R cd k x:=
 .inv hm hk tm mm nx (λi=>l.length-i.1) _ gv h0 step
theorem aH.V {ro:Option Nat}{dp:Nat}{J:Names->(Nat->Prop)->World->Prop}{α:Type}(l:List α)(tm:Up l->List (Nat×AV))(mm:Up l->List (Nat×aY))(nx:Nat)
  (step:∀i (h:i<=l.length) (B:X->Prop),(∀{x},(h:i<l.length)->Sub x (tm ⟨i+1,h⟩) (mm ⟨i+1,h⟩) nx []->B x)->AI.bP ro dp J P nt R 99 400 (.code cd:: .stop B::k) ⟨tm ⟨i,h⟩,(mm ⟨i,h⟩).map (λp=>(p.1,some p.2)),nx⟩)
  (h0:Sub x (tm ⟨0,y8 _⟩) (mm ⟨0,y8 _⟩) nx []:=by constructor<;>simp) (hm:P.follows .mixedOrders=true:=by decide+kernel) (hk:clean k=true:=by rfl):aH ro dp J P nt R cd k x:=
 .inv hm hk tm mm nx (λi=>l.length-i.1) _ [] h0 λi B hB=>.run 99 400 (by exact hk) (step i.1 i.2 B λh hs=>hB _ ⟨i.1+1,h⟩ [] hs (by simp only;omega))
theorem CI.n {ro:Option Nat}{dp:Nat}{J:Names->(Nat->Prop)->World->Prop}(h:AI.bP ro dp J P nt R 99 400 k x)(hc:clean k=true:=by rfl):CI ro dp J P nt R k x:=.run 99 400 hc h
theorem aH.un {dp:Nat}{J:Names->(Nat->Prop)->World->Prop}(h:AI.bP none dp J P nt R 99 400 (.code cd:: .code (.loop cd)::k) x)(hm:P.follows .mixedOrders=true:=by decide+kernel)(hp:Plain R:=by exact Plain.wH _ _ _ _ _)(hk:clean k=true:=by rfl):aH none dp J P nt R cd k x:=
 .Bp hm hp hk (.run 99 400 (by exact hk) h)
def Ok (P:Program)(f:FuncId):Bool:=match P.funcs[f]? with
 |some fn=>!(fn.name== "runtime.NumGoroutine")&& !fn.body.isNone
 |none=>false
theorem Enters.of {f:FuncId}(h:Ok P f=true):Enters P f:=by
 intro args w;unfold Ok at h;split at h
 ·rename_i fn e;simp at h;have h2:¬fn.body=none:=λq=>by rw[q]at h;exact absurd h.2 (by simp)
  simp[callFunc,e,h.1,h2]
 ·cases h
section
variable {ro : Option Nat} {dp : Nat} {J : Names -> (Nat -> Prop) -> World -> Prop}
theorem CI.pS (hct:Ct P f args [] [] res [])(hen:Enters P f)(st:Nat)(h:AI.bP ro dp J P nt R st 400 (.ops ops rest (i+1) (ft++[([],[])]) d::k) ⟨zQ o.dst (res.bU (dO [] (x.nx+64*i))) x.tm,x.mm,x.nx⟩)
  (ho:o.op=.call c:=by rfl) (hc:c.callee=.value fo:=by rfl) (hd:lY nt o.dst=true:=by rfl) (hg:o.guard=none\/∃g wa,o.guard=some (g,wa)/\pB ops g (cI x.tm)=some wa:=by first|exact .inl rfl|exact .inr ⟨_,_,rfl,by simp⟩|exact .inr ⟨_,_,rfl,by simp[*]⟩)
  (hf:sG (ev (cI x.tm) fo)=some (f,fs,cap):=by rfl) (ha:eQ.leL (fs++c.args.toList.map (ev (cI x.tm))++cap) (args.map (AV.bU (dO [] (x.nx+64*i)))):=by simp) (hk:clean k=true:=by rfl)
  (h1:fH.iU (λb=>decide (b<0)) args=true:=by rfl) (h2:fH (jB 0) res=true:=by rfl):CI ro dp J P nt R (.ops ops (o::rest) i ft d::k) x:=
 .ZP hct hen ho hc hd hg hf ha h1 h2 (.A8 st 400 hk h)
theorem CI.p (hct:Ct P f args [] [] res [])(h:AI.bP ro dp J P nt R 99 400 (.ops ops rest (i+1) (ft++[([],[])]) d::k) ⟨zQ o.dst (res.bU (dO [] (x.nx+64*i))) x.tm,x.mm,x.nx⟩)
  (hen:Enters P f:=by exact Enters.of (by decide+kernel)) (ho:o.op=.call c:=by rfl) (hc:c.callee=.value fo:=by rfl) (hd:lY nt o.dst=true:=by rfl) (hg:o.guard=none\/∃g wa,o.guard=some (g,wa)/\pB ops g (cI x.tm)=some wa:=by first|exact .inl rfl|exact .inr ⟨_,_,rfl,by simp⟩|exact .inr ⟨_,_,rfl,by simp[*]⟩)
  (hf:sG (ev (cI x.tm) fo)=some (f,fs,cap):=by rfl) (ha:eQ.leL (fs++c.args.toList.map (ev (cI x.tm))++cap) (args.map (AV.bU (dO [] (x.nx+64*i)))):=by simp) (hk:clean k=true:=by rfl)
  (h1:fH.iU (λb=>decide (b<0)) args=true:=by rfl) (h2:fH (jB 0) res=true:=by rfl):CI ro dp J P nt R (.ops ops (o::rest) i ft d::k) x:=
 .ZP hct hen ho hc hd hg hf ha h1 h2 (.A8 99 400 hk h)
theorem CI.cc (bn:List Nat)(hct:Ct P f args mr m res m')(h:AI.bP ro dp J P nt R 99 400 (.ops ops rest (i+1) (ft++[(kR bn (x.nx+64*i) mr m res m').qQ]) d::k) (x.app o.dst (kR bn (x.nx+64*i) mr m res m')))
  (hen:Enters P f:=by exact Enters.of (by decide+kernel)) (ho:o.op=.call c:=by rfl) (hc:c.callee=.value fo:=by rfl) (hd:lY nt o.dst=true:=by rfl) (hg:o.guard=none\/∃g wa,o.guard=some (g,wa)/\pB ops g (cI x.tm)=some wa:=by first|exact .inl rfl|exact .inr ⟨_,_,rfl,by simp⟩|exact .inr ⟨_,_,rfl,by simp[*]⟩)
  (hf:sG (ev (cI x.tm) fo)=some (f,fs,cap):=by rfl) (ha:eQ.leL (fs++c.args.toList.map (ev (cI x.tm))++cap) (args.map (AV.bU (dO bn (x.nx+64*i)))):=by simp) (hn:y5 bn args mr m res m':=by constructor<;>simp[jB])
  (hk:∀p∈mr++m,cK x.mm (dO bn (x.nx+64*i) p.1)=some (p.2.bU (dO bn (x.nx+64*i))):=by simp) (hl:clean k=true:=by rfl):CI ro dp J P nt R (.ops ops (o::rest) i ft d::k) x:=
 .Rg bn hct hen ho hc hd hg hf ha hn hk (.A8 99 400 hl h)
theorem CI.g (gv bn:List Nat)(hct:Ct P f args mr m res m')(h:AI.bP ro dp J P nt R 99 400 (.ops ops rest (i+1) (ft++[(FL (kR bn (x.nx+64*i) mr m res m') gv).qQ]) d::k) (x.app o.dst (FL (kR bn (x.nx+64*i) mr m res m') gv)))
  (hen:Enters P f:=by exact Enters.of (by decide+kernel)) (ho:o.op=.call c:=by rfl) (hc:c.callee=.value fo:=by rfl) (hd:lY nt o.dst=true:=by rfl) (hg:o.guard=none\/∃g wa,o.guard=some (g,wa)/\pB ops g (cI x.tm)=some wa:=by first|exact .inl rfl|exact .inr ⟨_,_,rfl,by simp⟩|exact .inr ⟨_,_,rfl,by simp[*]⟩)
  (hf:sG (ev (BT gv x) fo)=some (f,fs,cap):=by rfl) (ha:eQ.leL (fs++c.args.toList.map (ev (BT gv x))++cap) (args.map (AV.bU (dO bn (x.nx+64*i)))):=by simp[BT]) (hn:y5 bn args mr m res m':=by constructor<;>simp[jB])
  (hk:∀p∈mr++m,rI gv (cK x.mm) (dO bn (x.nx+64*i) p.1)=some (p.2.bU (dO bn (x.nx+64*i))):=by simp[rI]) (hv:∀b,b∈gv->(cK x.mm b).isSome=true:=by simp) (hl:clean k=true:=by rfl):CI ro dp J P nt R (.ops ops (o::rest) i ft d::k) x:=
 .zjB gv bn hct hen ho hc hd hg hf ha hn hk hv (.A8 99 400 hl h)
theorem CI.ff (h0:bN P kf args res)(ho:o.op=.call c)(hc:c.callee=.value fo)(hf:ev (cI x.tm) fo=kf)(h:AI.bP ro dp J P nt R 99 400 (.ops ops rest (i+1) (ft++[([],[])]) d::k) ⟨zQ o.dst (res.bU (dO [] (x.nx+64*i))) x.tm,x.mm,x.nx⟩)
  (hd:lY nt o.dst=true:=by rfl) (hg:o.guard=none\/∃g wa,o.guard=some (g,wa)/\pB ops g (cI x.tm)=some wa:=by first|exact .inl rfl|exact .inr ⟨_,_,rfl,by simp⟩|exact .inr ⟨_,_,rfl,by simp[*]⟩)
  (ha:eQ.leL (c.args.toList.map (ev (cI x.tm))) args:=by simp) (hk:clean k=true:=by rfl):CI ro dp J P nt R (.ops ops (o::rest) i ft d::k) x:=
 .zjC h0 ho hc hd hg hf ha (.A8 99 400 hk h)
theorem CI.s {tm:List (Nat×AV)}{mm:List (Nat×aY)}{nx:Nat}(g:List (Nat×Nat))(gv:List Nat)(hs:TB x tm mm nx g gv)(h:CI ro dp J P nt R k ⟨tm,mm.map (λp=>(p.1,some p.2)),nx⟩)(hk:clean k=true:=by rfl):CI ro dp J P nt R k x:=.sub g gv hk hs h
theorem bQ {st n:Nat}{t:Bool}{a b:Code}(h1:t=true->AI.bP ro dp J P nt R st n (.br (.d (.v (.bool true))) a b::k) x)(h2:t=false->AI.bP ro dp J P nt R st n (.br (.d (.v (.bool false))) a b::k) x):AI.bP ro dp J P nt R st n (.br (.d (.v (.bool t))) a b::k) x:=Fo h1 h2
theorem aX {st n:Nat}{t:Bool}{a b:Code}{P_ Q_:Prop} [q:Nice t P_ Q_](h1:P_->t=true->AI.bP ro dp J P nt R st n (.br (.d (.v (.bool true))) a b::k) x)(h2:Q_->t=false->AI.bP ro dp J P nt R st n (.br (.d (.v (.bool false))) a b::k) x):AI.bP ro dp J P nt R st n (.br (.d (.v (.bool t))) a b::k) x:=Fo (λe=>h1 (q.a e) e) λe=>h2 (q.b e) e
theorem bM {st n:Nat}{t wa:Bool}(h1:t=true->AI.bP ro dp J P nt R st n (.gd (.d (.v (.bool true))) wa ops o rest i ft d::k) x)(h2:t=false->AI.bP ro dp J P nt R st n (.gd (.d (.v (.bool false))) wa ops o rest i ft d::k) x):AI.bP ro dp J P nt R st n (.gd (.d (.v (.bool t))) wa ops o rest i ft d::k) x:=Fm h1 h2
theorem cV {st n:Nat}{t wa:Bool}{P_ Q_:Prop} [q:Nice t P_ Q_](h1:P_->t=true->AI.bP ro dp J P nt R st n (.gd (.d (.v (.bool true))) wa ops o rest i ft d::k) x)(h2:Q_->t=false->AI.bP ro dp J P nt R st n (.gd (.d (.v (.bool false))) wa ops o rest i ft d::k) x):AI.bP ro dp J P nt R st n (.gd (.d (.v (.bool t))) wa ops o rest i ft d::k) x:=Fm (λe=>h1 (q.a e) e) λe=>h2 (q.b e) e
variable {G : (Nat -> Prop) -> World -> Prop}
theorem CI.j (bn:List Nat)(hct:eL G P f args mr m res m')(h:AI.bP none dp (JG G) P nt R 99 400 (.ops ops rest (i+1) (ft++[(kR bn (x.nx+64*i) mr m res m').qQ]) d::k) (x.app o.dst (kR bn (x.nx+64*i) mr m res m')))
  (hen:Enters P f:=by exact Enters.of (by decide+kernel)) (ho:o.op=.call c:=by rfl) (hc:c.callee=.value fo:=by rfl) (hd:lY nt o.dst=true:=by rfl) (hg:o.guard=none\/∃g wa,o.guard=some (g,wa)/\pB ops g (cI x.tm)=some wa:=by first|exact .inl rfl|exact .inr ⟨_,_,rfl,by simp⟩|exact .inr ⟨_,_,rfl,by simp[*]⟩)
  (hf:sG (ev (cI x.tm) fo)=some (f,fs,cap):=by rfl) (ha:eQ.leL (fs++c.args.toList.map (ev (cI x.tm))++cap) (args.map (AV.bU (dO bn (x.nx+64*i)))):=by simp) (hn:y5 bn args mr m res m':=by constructor<;>simp[jB])
  (hk:∀p∈mr++m,cK x.mm (dO bn (x.nx+64*i) p.1)=some (p.2.bU (dO bn (x.nx+64*i))):=by simp) (hl:clean k=true:=by rfl):CI none dp (JG G) P nt R (.ops ops (o::rest) i ft d::k) x:=
 .zjA bn hct hen ho hc hd hg hf ha hn hk (.A8 99 400 hl h)
end
end
theorem zkL {P:Program}{t:TypeId}{ti:TI}{n E:Nat}(h:aS P t=some ti)(hk:ti.k=.arr n E):P.underlying t=some (.array n E):=by
 obtain⟨i,d,z,hi,hd,hz,rfl⟩:=jO h;rw[hd];simp only at hk;cases d<;>simp[iS]at hk;obtain⟨rfl,rfl⟩:=hk;rfl
theorem zew {P:Program}{o:Oper}{T E:TypeId}{xo:Operand}{n:Nat}{ti te:TI}(ho:o.op=.slice T xo none none none)(hT:aS P T=some ti)(hk:ti.k=.arr n E)(hE:aS P E=some te)(hs:te.sz=1){tm:Nat->AV}{m:Mem}{nm:Nat}{cs:List D}
  (hx:ev tm xo=.d (.bE cs)) (h0:0<n) (hn:n<=cs.length) (hm:n<=1000):bJ P o tm m nm (.d (.ro true ((cs.take n).map λc=>[c]))) m:=by
 refine bJ.pure λa w σ I h _=>?_;have hv:=dG (σ:=σ) (I:=I) (w:=w) (tm:=tm) (a:=a) (x:=xo) λs e=>h s (by simp[ho,Op.operands,e]);rw[hx]at hv;have hu:=zkL hT hk;have hl:((cs.take n).map λc=>[c]).length=n:=by grind
 generalize hy:a.eval xo=y at hv;cases hv with
 |d hd=>cases hd with
  | @bE _ blk off val hI hc hr h1=>
    have hb:=xD (P:=P) (w:=w) (isS:=false) (len:=n) (cap:=n) (lo:=none) (hi:=none) (mx:=none) (.inl ⟨rfl,rfl⟩) (.inl ⟨rfl,rfl⟩) (.inl ⟨rfl,rfl⟩) ⟨by simp,by simp,by simp,trivial⟩ (λh=>absurd rfl h) (bY _);have hn0:¬n=0:=by omega
    refine⟨.slice (some ⟨blk,off,none⟩) n n,?_,.d ?_⟩
    ·simp at hb;simp[execOp,ho,hy,Instr.sliceAt,cZ hu,sX hE,Instr.sureAddr,hb,add_plain]
    ·have hg:∀(i:Nat) e (j:Nat) c,((cs.take n).map λc=>[c])[i]? =some e->e[j]? =some c->j=0/\cs[i]? =some c:=by
      grind
     have:=RD.ro (I:=I) (w:=w) (sz:=1) (fc:=true) (es:=(cs.take n).map λc=>[c]) (blk:=blk) (off:=off) (cap:=n) (λi j=>val (i+j)) hI (λe he=>by obtain⟨c,_,rfl⟩:=fU.1 he;rfl) (by omega) (by simp[maxLen];omega) (λ_=>hl.symm)
      (λi e j c he hcc=>by obtain⟨rfl,h3⟩:=hg i e j c he hcc;simpa using hc i c h3)
      (λi e j c he hcc=>by obtain⟨rfl,h3⟩:=hg i e j c he hcc;simpa using hr i c h3)
      (λi e j c he hcc=>by obtain⟨rfl,h3⟩:=hg i e j c he hcc;simpa using h1 i c h3)
     rwa[hl]at this
theorem CI.arr {ro:Option Nat}{dp:Nat}{J:Names->(Nat->Prop)->World->Prop}{P:Program}{nt:Nat}{R:Exit->X->Prop}{ops:Array Oper}{o:Oper}{rest:List Oper}{i:Nat}{ft:List (List Nat×List Nat)}{d:Bool}{k:List It}{x:X}{T E:TypeId}{xo:Operand}{n:Nat}{ti te:TI}{cs:List D}(hT:aS P T=some ti)(hE:aS P E=some te)(st:Nat)
  (h:AI.bP ro dp J P nt R st 400 (.ops ops rest (i+1) (ft++[([],[])]) d::k) ⟨zQ o.dst (.d (.ro true ((cs.take n).map λc=>[c]))) x.tm,x.mm,x.nx⟩)
  (ho:o.op=.slice T xo none none none:=by rfl) (hk:ti.k=.arr n E:=by rfl) (hs:te.sz=1:=by rfl) (hx:ev (cI x.tm) xo=.d (.bE cs):=by rfl) (h0:0<n:=by decide) (hn:n<=cs.length:=by simp) (hm:n<=1000:=by decide) (hd:lY nt o.dst=true:=by rfl)
  (hg:o.guard=none\/∃g wa,o.guard=some (g,wa)/\pB ops g (cI x.tm)=some wa:=by first|exact .inl rfl|exact .inr ⟨_,_,rfl,by simp⟩|exact .inr ⟨_,_,rfl,by simp[*]⟩) (hc:clean k=true:=by rfl):CI ro dp J P nt R (.ops ops (o::rest) i ft d::k) x:=
 .op ⟨_,[],[]⟩ hd hg ((zew ho hT hk hE hs hx h0 hn hm).rR (by simp[xF,ho])) (.A8 st 400 hc h)
theorem Ct.data {P:Program}{f:FuncId}{args:List AV}{sz:Nat}{es:List (List D)}{T:TypeId}(h:Ct P f args [] [] (.own 64) [(64,.grow sz es T)]):Ct P f args [] [] (.d (.ro false es)) []:=by
 intro σ I w vs hI hl ha hm h64;refine(h σ I w vs hI hl ha hm h64).mono ?_;rintro e w' ⟨v,σ',I',rfl,hp,hv⟩;have hr:=KQ (kp:=λ_=>false) hp.mem 8 hv;have e1:fG (λ_=>false) (bB ([]++[(64,.grow sz es T)])) 8 (.own 64)=.d (.ro false es):=by simp[fG,bB]
 rw[e1]at hr;refine⟨v,σ',_,rfl,⟨hp.os,hp.tape,hp.output,hp.size,hp.names,hp.new,λn h=>.inl (hp.vH n h),?_,?_,hp.frame,⟨λb k h=>by simp[bB]at h,λb b' k k' x x' n h=>by simp[bB]at h⟩,λb k h=>by simp[bB]at h,?_⟩,hr⟩
 ·rintro n (h|⟨b,_,b',k,x,h0,h1,h2,h3⟩)
  ·exact hp.ib n h
  ·obtain⟨y,hy,_,hn⟩:=hp.mem.blk _ _ h1;rw[hy]at h2;cases h2;exact(hn n h3).1
 ·rintro n (h|⟨b,_,b',k,x,h0,h1,h2,h3⟩)
  ·exact hp.kQ n h
  ·rcases hp.mine n ⟨b',k,x,h1,h2,h3⟩with g|g
   ·exact .inr (.inr g)
   ·exact .inr (.inl g)
 ·rintro n ⟨b,k,x,h,_⟩;simp[bB]at h
def TE (R:Exit->X->Prop)(l:Nat)(B:X->Prop):Exit->X->Prop
 |.goto l',x=>l'=l/\B x
 |e,x=>R e x
@[simp] theorem JumpR_ret (R:Exit->X->Prop)(l:Nat)(B:X->Prop)(x:X):TE R l B .ret x=R .ret x:=rfl
@[simp] theorem JumpR_normal (R:Exit->X->Prop)(l:Nat)(B:X->Prop)(x:X):TE R l B .normal x=R .normal x:=rfl
@[simp] theorem JumpR_goto (R:Exit->X->Prop)(l l':Nat)(B:X->Prop)(x:X):TE R l B (.goto l') x=(l'=l/\B x):=rfl
theorem least (S:Nat->Prop):∀n,S n->∃m,S m/\∀k,S k->m<=k:=by
 intro n;induction n using Nat.strongRecOn with
 |_ n ih=>
  intro h;by_cases e:∃k,k<n/\S k
  ·obtain⟨k,h1,h2⟩:=e;exact ih k h1 h2
  ·exact⟨n,h,λk hk=>Nat.le_of_not_lt λhlt=>e ⟨k,hlt,hk⟩⟩
theorem CI.jumps {dp:Nat}{J:Names->(Nat->Prop)->World->Prop}{P:Program}{nt:Nat}{R:Exit->X->Prop}{x:X}(hm:P.follows .mixedOrders=true)(hp:Plain R){pre rest:Code}{l:Nat}{ι:Type}(tm:ι->List (Nat×AV))(m:ι->List (Nat×aY))(nx:Nat)(μ:ι->Nat)(i0:ι)(hpre:findLabel pre l=none)
  (first:∀B:X->Prop,(∀x gv,Sub x (tm i0) (m i0) nx gv->B x)->CI none dp J P nt R [.code pre,.stop B] x)
  (step:∀i (B:X->Prop),(∀x j gv,Sub x (tm j) (m j) nx gv->μ j<μ i->B x)->CI none dp J P nt (TE R l B) [.code rest] ⟨tm i,(m i).map (λp=>(p.1,some p.2)),nx⟩):CI none dp J P nt R [.code (.scope (.seq pre (.seq (.label l) rest)))] x:=by
 classical
 refine CI.Qi rfl λE hP hn hJ a w hr=>?_;subst hP
 let fam:ι->X:=λi=>⟨tm i,(m i).map (λp=>(p.1,some p.2)),nx⟩
 have pass0:∀i a w,Rel E (fam i).den a w->rest.wp E.P (Exit.jump l (λa' w'=>∃j,Rel E (fam j).den a' w'/\μ j<μ i) (tE E R)) a w:=by
  intro i a w hr;have:=CI.wp hm (step i (λy=>∃j gv,Sub y (tm j) (m j) nx gv/\μ j<μ i) (λx j gv hs hlt=>⟨j,gv,hs,hlt⟩)) rfl E rfl hn hJ a w hr;refine wp_mono this λe a w h=>?_;cases e with
  |goto l'=>
   obtain⟨y,hy,rfl,j,gv,hs,hlt⟩:=h;exact⟨rfl,j,Rel.sub hs hy,hlt⟩
  |_=>
   obtain⟨y,hy,hr⟩:=h;exact⟨y,hy,hr⟩
 let S:Act->World->Nat->Prop:=λa w n=>∃j,Rel E (fam j).den a w/\μ j=n
 have h1:=CI.wp hm (first (λy=>∃gv,Sub y (tm i0) (m i0) nx gv) (λx gv hs=>⟨gv,hs⟩)) rfl E rfl hn hJ a w hr;refine wp_scope_jumps (rest:=.seq .skip rest) l (λa w=>∃j,Rel E (fam j).den a w) (λa w=>if h:∃m,S a w m/\∀k,S a w k->m<=k then Classical.choose h else 0) (by simp[findLabel,hpre]) ?_ ?_
 ·refine wp_seq (wp_mono h1 λe a w h=>?_);cases e with
  |normal=>
   simp only[eE]at h;obtain⟨y,hy,gv,hs⟩:=h;refine wp_seq (wp_label ?_);refine wp_mono (pass0 i0 a w (Rel.sub hs hy)) λe a w h=>?_;cases e with
   |goto l'=>exact⟨h.1,h.2.imp λj hj=>hj.1⟩
   |_=>exact h
  |goto l'=>exact absurd h (by simp only[eE];exact λ⟨y,_,hr⟩=>hp.1 _ _ hr)
  |_=>simp only[eE]at h;exact h
 ·rintro a w ⟨j0,hj0⟩;have hex:=least (S a w) (μ j0) ⟨j0,hj0,rfl⟩;obtain⟨⟨j,hj,hmj⟩,hmin⟩:=Classical.choose_spec hex;refine wp_seq (wp_skip ?_);refine wp_mono (pass0 j a w hj) λe a' w' h=>?_;cases e with
  |goto l'=>
   obtain⟨e1,j',hj',hlt⟩:=h;have hex':=least (S a' w') (μ j') ⟨j',hj',rfl⟩;refine⟨e1,⟨j',hj'⟩,?_⟩;simp only[dif_pos hex,dif_pos hex'];have:=(Classical.choose_spec hex').2 (μ j') ⟨j',hj',rfl⟩;omega
  |_=>exact h
open Go.Lib Go.Sort Go.Shelf Go.RowKit Go.Proofs
def TG (P:Program)(f:FuncId)(sz:Nat)(TS:TypeId):Prop:=
 ∀(blk cap k len:Nat) (news:List Value) (w W2:World),k<len->len<=cap->cap<=9223372036854775807->
  ∀(A:Addr),(if cap=k+1 then some (⟨blk,0,none⟩:Addr)else some ⟨blk,(k+1)*sz,none⟩)=some A->
  Hid (∀t u,news[t]? =some u->w.drew.cell? (A.add t)=some u)->Hid (news.length=(len-(k+1))*sz)->Hid (∀u∈news,u.oneCell'=true)->
  Hid (∀t,t<news.length->(w.drew.cell? ⟨blk,0+k*sz+t,none⟩).isSome=true/\w.drew.frozen? ⟨blk,0+k*sz+t,none⟩=false)->
  (∀ty,(Builtin.clear_ #[TS] ty #[.slice (some ⟨blk,(k+(len-(k+1)))*sz,none⟩) (len-(k+(len-(k+1)))) (cap-(k+(len-(k+1))))]).run P (w.drew.setCells blk (0+k*sz) news)=.ok (.tuple #[]) W2)->
  Calls P f #[.slice (some ⟨blk,0,none⟩) len cap,.int .i64 k,.int .i64 ((k:Int)+1)] w λe w'=>e=.returned (.slice (some ⟨blk,0,none⟩) (len-1) cap)/\w'=W2
theorem zbJ {P:Program}{w:World}{TS T:TypeId}{sz:Nat}(ht:P.underlying TS=some (.slice T)){z:Value}(hv:∀w,(zeroValue T).run P w=.ok z w)(hz:z.cells.size=sz)(h1:∀v∈z.cells.toList,v.oneCell'=true)(h0:0<sz){n i c:Nat}{arr:Array Value}
  (g1:w.heap[n]? =some (.cells arr T (0,0))) (hfit:i*sz+sz<=arr.size):
  ∃vs:List Value,vs.length=sz/\∀ty,(Builtin.clear_ #[TS] ty #[.slice (some ⟨n,i*sz,none⟩) 1 c]).run P w=.ok (.tuple #[]) (w.setRow n (arr.toList.take (i*sz)++vs++arr.toList.drop (i*sz+sz)).toArray):=by
 let vs:List Value:=(Builtin.zeroCells z.cells 1).toList
 have hvl:vs.length=sz:=by simp[vs,Builtin.zeroCells,hz]
 have hvone:∀v∈vs,v.oneCell'=true:=by
  intro v hv;obtain⟨q,hq⟩:=CM hv;have hql:q<sz:=by grind
  have hvx:vs[q]? =some (z.cells[q%sz]!):=by
   simp only[vs,Builtin.zeroCells,zG,Array.getElem?_map];simp_all
  rw[hvx]at hq;cases hq;have hlt:q%sz<z.cells.size:=by rw[hz];exact EH _ h0
  refine h1 _ ?_;rw[EE z.cells _ hlt];simp
 have hrun:=TH (P:=P) n (i*sz) T vs 0 arr w g1 (by rw[hvl];omega) hvone;simp at hrun;rw[hvl]at hrun;refine⟨vs,hvl,λty=>?_⟩;simp[Builtin.clear_,cZ ht,hv];simp only[vs]at hrun;rw[hrun];simp[vs]
theorem Ll {l vs:List Value}{a q:Nat}(h:a+vs.length<=l.length):(l.take a++vs++l.drop (a+vs.length)).toArray[q]? =if q<a then l[q]? else if q<a+vs.length then vs[q-a]? else l[q]? :=by grind
theorem Ct.delete {P:Program}{f:FuncId}{sz:Nat}{TS T:TypeId}{es:List (List D)}{k:Nat}(raw:TG P f sz TS)(ht:P.underlying TS=some (.slice T)){i0:TypeInfo}(hi:P.info? T=some i0)(his:i0.size=sz){z:Value}(hv:∀w,(zeroValue T).run P w=.ok z w)(hz:z.cells.size=sz)
  (h1:∀v∈z.cells.toList,v.oneCell'=true) (h0:0<sz) (hk:k<es.length):Ct P f [.own 0,.d (.v (.int .i64 k)),.d (.v (.int .i64 ((k:Int)+1)))] [] [(0,.grow sz es T)] (.d (.ro false (es.eraseIdx k))) []:=by
 intro σ I w vs hI hlen ha hm hn
 match vs,hlen with
 |[y,a,b],_=>
 have e1:=eF (ha 1 _ _ rfl rfl);have e2:=eF (ha 2 _ _ rfl rfl);subst e1 e2;have hy:σ 0=some y:=by cases ha 0 _ _ rfl rfl with|own h _=>exact h
 obtain⟨y',hy',hrb,hnn⟩:=hm.blk 0 _ rfl;rw[hy]at hy';cases hy'
 obtain⟨n,cap,arr,rfl,g1,g2,g3,g4,g5,g6⟩:∃n cap arr,y=.slice (some ⟨n,0,none⟩) es.length cap/\w.heap[n]? =some (.cells arr T (0,0))/\cap*sz<=arr.size/\es.length<=cap/\cap<=maxLen/\(∀e∈es,e.length=sz)/\
   (∀(i:Nat) e (j:Nat) c,es[i]? =some e->e[j]? =some c->∃x,arr[i*sz+j]? =some x/\RD I w c x/\x.oneCell'=true):=by
  cases hrb with
  |none=>simp at hk
  |emp _=>simp at hk
  |grow g1 g2 g3 g4 g5 g6=>exact⟨_,_,_,rfl,g1,g2,g3,g4,g5,g6⟩
 have hcap:0<cap:=by omega
 have hbn:AI.hb (Value.slice (some ⟨n,0,none⟩) es.length cap)=some n:=vJ hcap;have hnI:¬I n:=(hnn n hbn).2;have hnh:n<w.heap.size:=(hnn n hbn).1;have hfit:es.length*sz<=arr.size:=dH (oQ _ g3) g2;have hks:(k+1)*sz+(es.length-(k+1))*sz=es.length*sz:=by rw[<-kC];congr 1;omega
 have hks2:k*sz+sz=(k+1)*sz:=by rw[kC,sN]
 have hks3:(es.length-1)*sz+sz=es.length*sz:=by
  obtain⟨l,hl⟩:∃l,es.length=l+1:=⟨es.length-1,by omega⟩;rw[hl,Nat.add_sub_cancel,kC,sN]
 let news:List Value:=(arr.toList.drop ((k+1)*sz)).take ((es.length-(k+1))*sz)
 have hnl:news.length=(es.length-(k+1))*sz:=by simp[news];omega
 have hnget:∀t,t<news.length->news[t]? =arr[(k+1)*sz+t]? :=by
  intro t ht;rw[hnl]at ht;simp only[news];rw[TM ht,CN,zG]
 have hone:∀q,q<es.length*sz->∃x,arr[q]? =some x/\x.oneCell'=true:=by
  intro q hq;have hi:q/sz<es.length:=TL (by rw[uO];exact hq);have hm:q%sz<sz:=EH _ h0;have he:=bO hi;have hel:=g5 _ (mF hi);obtain⟨x,p1,_,p3⟩:=g6 (q/sz) _ (q%sz) _ he (bO (by omega));refine⟨x,?_,p3⟩;rw[uO,Nat.div_add_mod]at p1;exact p1
 have hnone:∀u∈news,u.oneCell'=true:=by
  intro u hu;obtain⟨t,ht⟩:=CM hu;have hlt:=(cE.1 ht).1;rw[hnget t hlt]at ht;obtain⟨x,p1,p2⟩:=hone ((k+1)*sz+t) (by rw[hnl]at hlt;omega);rw[p1]at ht;cases ht;exact p2
 have hcell:∀q,w.drew.cell? ⟨n,q,none⟩=arr[q]? :=λq=>AB (w:=w.drew) (T:=T) (fr:=(0,0)) g1;obtain⟨A,hA,hsrc⟩:∃A:Addr,(if cap=k+1 then some (⟨n,0,none⟩:Addr)else some ⟨n,(k+1)*sz,none⟩)=some A/\∀t u,news[t]? =some u->w.drew.cell? (A.add t)=some u:=by
  by_cases h:cap=k+1
  ·refine⟨⟨n,0,none⟩,by simp[h],λt u hu=>?_⟩;have:news.length=0:=by rw[hnl,show es.length-(k+1)=0 by omega,Nat.zero_mul]
   rw[kH this]at hu;simp at hu
  ·refine⟨⟨n,(k+1)*sz,none⟩,by simp[h],λt u hu=>?_⟩;rw[add_plain,hcell,<-hnget t (cE.1 hu).1,hu]
 let arr1:Array Value:=(arr.toList.take (k*sz)++news++arr.toList.drop (k*sz+news.length)).toArray
 have hfit1:k*sz+news.length<=arr.size:=by rw[hnl];omega
 have ha1:arr1.size=arr.size:=by simp[arr1];omega
 have g1':w.drew.heap[n]? =some (.cells arr T (0,0)):=g1;have hfz:∀q,w.drew.frozen? ⟨n,q,none⟩=false:=λq=>by unfold World.frozen?;simp only[g1'];simp
 have hsome:∀q,q<es.length*sz->(w.drew.cell? ⟨n,q,none⟩).isSome=true:=λq hq=>by
  obtain⟨x,p,_⟩:=hone q hq;rw[hcell,p];rfl
 have hset:w.drew.setCells n (0+k*sz) news=w.drew.setRow n arr1:=by
  have r1:=run_storeCells_cells (P:=P) n (k*sz) news 0 w.drew (λj hj=>by rw[AX];exact hsome _ (by rw[hnl]at hj;omega)) (λj hj=>by rw[AX];exact hfz _) hnone;have r2:=TH (P:=P) n (k*sz) T news 0 arr w.drew g1' (by omega) hnone;simp only[AX]at r1 r2;rw[r1]at r2;rw[AR];injection r2
 have g1a:(w.drew.setRow n arr1).heap[n]? =some (.cells arr1 T (0,0)):=setRow_heap w.drew n arr _ T (0,0) g1';obtain⟨zs,hzl,hclr⟩:=zbJ (P:=P) (w:=w.drew.setRow n arr1) (c:=cap-(es.length-1)) ht hv hz h1 h0 (i:=es.length-1) g1a (by rw[ha1];omega)
 let mC:Array Value:=(arr1.toList.take ((es.length-1)*sz)++zs++arr1.toList.drop ((es.length-1)*sz+sz)).toArray
 have hW:∀ty,(Builtin.clear_ #[TS] ty #[.slice (some ⟨n,(k+(es.length-(k+1)))*sz,none⟩) (es.length-(k+(es.length-(k+1)))) (cap-(k+(es.length-(k+1))))]).run P (w.drew.setCells n (0+k*sz) news)=.ok (.tuple #[]) ((w.drew.setRow n arr1).setRow n mC):=by
  intro ty;rw[hset,show k+(es.length-(k+1))=es.length-1 by omega,show es.length-(es.length-1)=1 by omega];exact hclr ty
 refine(raw n cap k es.length news w ((w.drew.setRow n arr1).setRow n mC) hk g3 g4 A hA hsrc hnl hnone (λt ht=>⟨hsome _ (by rw[hnl]at ht;omega),hfz _⟩) hW).mono ?_;rintro e w' ⟨rfl,rfl⟩;have ha2:mC.size=arr.size:=by simp[mC,hzl,ha1];omega
 have g2a:((w.drew.setRow n arr1).setRow n mC).heap[n]? =some (.cells mC T (0,0)):=setRow_heap _ n arr1 _ T (0,0) g1a;have hoth:∀j,j≠n->((w.drew.setRow n arr1).setRow n mC).heap[j]? =w.heap[j]? :=λj hj=>(CG _ n j _ hj).trans (CG _ n j _ hj);have hat:∀q,q<(es.length-1)*sz->mC[q]? =if q<k*sz then arr[q]? else arr[q+sz]? :=by
  intro q hq;have m1:=Ll (l:=arr1.toList) (vs:=zs) (a:=(es.length-1)*sz) (q:=q) (by rw[hzl];simp[ha1];omega);rw[hzl,aZ hq,zG]at m1;have m2:=Ll (l:=arr.toList) (vs:=news) (a:=k*sz) (q:=q) (by simpa using hfit1);have m3:mC[q]? =arr1[q]? :=m1;have m4:arr1[q]? =if q<k*sz then arr.toList[q]? else if q<k*sz+news.length then news[q-k*sz]? else arr.toList[q]? :=m2
  rw[m3,m4,zG];by_cases c1:q<k*sz
  ·rw[aZ c1,aZ c1]
  ·rw[aT c1,aT c1,aZ (by rw[hnl];omega),hnget _ (by rw[hnl];omega)];congr 1;omega
 refine⟨_,σ,λj=>I j\/j=n,rfl,{os:=rfl,tape:=rfl,output:=⟨rfl,Nat.le_succ _⟩,size:=by simp,names:=λb x h=>h,new:=λb h1 h2=>absurd h1 h2,vH:=λj h=>.inl h,ib:=?_,kQ:=?_,frame:=?_,mem:=⟨λb q hb=>by simp[bB]at hb,λb b' q q' x x' j hb=>by simp[bB]at hb⟩,wP:=λb q hb=>by simp[bB]at hb,mine:=?_},?_⟩
 ·rintro j (h|rfl)
  ·simpa using hI j h
  ·simpa using hnh
 ·rintro j (h|rfl)
  ·exact .inl h
  ·exact .inr (.inr ⟨0,_,_,rfl,hy,hbn⟩)
 ·intro j hj ho;exact hoth j (λe=>ho (e▸⟨0,_,_,rfl,hy,hbn⟩))
 ·rintro j ⟨b,q,x,hb,_⟩;simp[bB]at hb
 ·have hel:(es.eraseIdx k).length=es.length-1:=by rw[List.length_eraseIdx,aZ hk]
  have mono:∀{c y},RD I w c y->RD (λj=>I j\/j=n) ((w.drew.setRow n arr1).setRow n mC) c y:=λh=>h.mono (λj hj=>hoth j (λe=>hnI (e▸hj))) (λ_ h=>.inl h);have key:∀(i:Nat) e (j:Nat) c,(es.eraseIdx k)[i]? =some e->e[j]? =some c->∃x,mC[i*sz+j]? =some x/\RD I w c x/\x.oneCell'=true:=by
   intro i e j c h3 h4;have hil:i<es.length-1:=by rw[<-hel];exact(cE.1 h3).1
   rw[List.getElem?_eraseIdx]at h3;by_cases c1:i<k
   ·rw[aZ c1]at h3;obtain⟨x,p1,p2,p3⟩:=g6 i e j c h3 h4;have hj:j<sz:=by rw[<-g5 e (gT h3)];exact(cE.1 h4).1
    have q1:(i+1)*sz<=k*sz:=oQ _ c1;have q2:(i+1)*sz<=(es.length-1)*sz:=oQ _ hil;rw[kC,sN]at q1 q2;exact⟨x,by rw[hat _ (by omega),aZ (by omega)];exact p1,p2,p3⟩
   ·rw[aT c1]at h3;obtain⟨x,p1,p2,p3⟩:=g6 (i+1) e j c h3 h4;have hj:j<sz:=by rw[<-g5 e (gT h3)];exact(cE.1 h4).1
    have q1:k*sz<=i*sz:=oQ _ (by omega);have q2:(i+1)*sz<=(es.length-1)*sz:=oQ _ hil;rw[kC,sN]at q2 p1;refine⟨x,?_,p2,p3⟩;rw[hat _ (by omega),aT (by omega),show i*sz+j+sz=i*sz+sz+j by omega];exact p1
  have hr:=RD.ro (I:=λj=>I j\/j=n) (w:=(w.drew.setRow n arr1).setRow n mC) (sz:=sz) (fc:=false) (es:=es.eraseIdx k) (blk:=n) (off:=0) (cap:=cap) (λi j=>mC.getD (i*sz+j) undef) (.inr rfl) (λe he=>g5 e (Ag he)) (by omega) g4 (by simp)
   (λi e j c h3 h4=>by
     obtain⟨x,p1,_,_⟩:=key i e j c h3 h4;rw[AR,AB g2a];simp[p1])
   (λi e j c h3 h4=>by
     obtain⟨x,p1,p2,_⟩:=key i e j c h3 h4;have e0:mC.getD (i*sz+j) undef=x:=by simp[p1]
     rw[e0];exact mono p2)
   (λi e j c h3 h4=>by
     obtain⟨x,p1,_,p3⟩:=key i e j c h3 h4;have e0:mC.getD (i*sz+j) undef=x:=by simp[p1]
     rw[e0];exact p3)
  rw[hel]at hr;exact .d hr
theorem Ct.Qe {P:Program}{f:FuncId}{sz:Nat}{TS T:TypeId}{es:List (List D)}{k:Nat}{ti:TI}(raw:TG P f sz TS)(ht:P.underlying TS=some (.slice T))(hi:aS P T=some ti)(his:ti.sz=sz)(hz:ti.zero.length=sz)(h1:ti.zero.all Value.oneCell'=true)(h0:0<sz)(hk:k<es.length):
  Ct P f [.own 0,.d (.v (.int .i64 k)),.d (.v (.int .i64 ((k:Int)+1)))] [] [(0,.grow sz es T)] (.d (.ro false (es.eraseIdx k))) []:=by
 obtain⟨i,d,z,hi',hd,hz',rfl⟩:=jO hi;exact Ct.delete raw ht hi' his (z:=z) (λw=>by simp[zeroValue,typeInfo,hi',hz']) (by simpa using hz) (λv hv=>dP.1 h1 v hv) h0 hk
end Go.AI
namespace Go.AI
theorem Gm {σ:Names}{I:Nat->Prop}{w:World}{pre post:List AV}{T:TypeId}{b:Nat}{x v:Value}(hv:σ b=some v)(h1:v.oneCell'=true):RB σ I w (.cells (pre++ .own b::post) T) x↔RB σ I w (.cells (pre++ .d (.v v)::post) T) x:=by
 have key:∀(c c':AV),(∀y,RV σ I w c y->RV σ I w c' y)->RB σ I w (.cells (pre++c::post) T) x->RB σ I w (.cells (pre++c'::post) T) x:=by
  intro c c' h hb;cases hb with
  |cells hw hl hr=>
   refine .cells hw (by simpa using hl) λi d y hd hy=>?_
   grind
 constructor
 ·exact key _ _ λy h=>by
   cases h with
   |own h _=>rw[hv]at h;cases h;exact .d (.v _)
 ·exact key _ _ λy h=>by
   have:=eF h;subst this;exact .own hv h1
theorem zU {mr rest:List (Nat×aY)}{a c:aY}(h0:bB mr 0=none)(b:Nat):bB (mr++(0,a)::rest) b=if b=0 then some a else bB (mr++(0,c)::rest) b:=by
 have app:∀(l r:List (Nat×aY)),bB (l++r) b=match bB l b with|some k=>some k|none=>bB r b:=by
  intro l r;induction l with
  |nil=>rfl
  |cons p l ih=>
   simp;split
   ·rfl
   ·exact ih
 rw[app,app];by_cases hb:b=0
 ·simp_all
 ·rw[aT hb];cases bB mr b with
  |some k=>rfl
  |none=>simp[x9 hb]
theorem Fv {σ:Names}{I:Nat->Prop}{w:World}{mr rest:List (Nat×aY)}{a c:aY}(h0:bB mr 0=none)(hc:∀x,RB σ I w a x->RB σ I w c x)(h:RM σ I w (bB (mr++(0,a)::rest))):RM σ I w (bB (mr++(0,c)::rest)):=by
 have back:∀b k,bB (mr++(0,c)::rest) b=some k->∃k',bB (mr++(0,a)::rest) b=some k':=by
  intro b k hk;rw[zU h0 (c:=a)]at hk;rw[zU h0 (c:=a)]
  grind
 refine⟨λb k hk=>?_,λb b' k k' x x' n h1 h2 h3 h4 h5 h6=>?_⟩
 ·rw[zU h0 (c:=a)]at hk;by_cases hb:b=0
  ·rw[aZ hb]at hk;cases hk;obtain⟨x,p,q,r⟩:=h.blk b a (by rw[zU h0 (c:=a),aZ hb]);exact⟨x,p,hc x q,r⟩
  ·rw[aT hb]at hk;exact h.blk b k hk
 ·obtain⟨q,hq⟩:=back b k h1;obtain⟨q',hq'⟩:=back b' k' h2;exact h.apart b b' q q' x x' n hq hq' h3 h4 h5 h6
theorem PN {σ:Names}{mr rest:List (Nat×aY)}{a c:aY}(h0:bB mr 0=none){n:Nat}(h:eZ σ (bB (mr++(0,a)::rest)) n):eZ σ (bB (mr++(0,c)::rest)) n:=by
 obtain⟨b,k,x,h1,h2,h3⟩:=h;by_cases hb:b=0
 ·exact⟨b,c,x,by rw[zU h0 (c:=a),aZ hb],h2,h3⟩
 ·rw[zU h0 (c:=c),aT hb]at h1;exact⟨b,k,x,h1,h2,h3⟩
theorem Ct.rH {P:Program}{f:FuncId}{args:List AV}{mr rest rest':List (Nat×aY)}{res:AV}{pre post pre' post':List AV}{T:TypeId}{b:Nat}(h0:bB mr 0=none)
  (h:∀v,Ct P f args mr ((0,.cells (pre++ .d (.v v)::post) T)::rest) res ((0,.cells (pre'++ .d (.v v)::post') T)::rest')):
  Ct P f args mr ((0,.cells (pre++ .own b::post) T)::rest) res ((0,.cells (pre'++ .own b::post') T)::rest'):=by
 intro σ I w vs hI hl ha hm h64;obtain⟨x,hx,hrb,_⟩:=hm.blk 0 (.cells (pre++ .own b::post) T) (by rw[zU h0 (c:=.cells [] T),aZ rfl]);obtain⟨v,hv,h1⟩:∃v,σ b=some v/\v.oneCell'=true:=by
  cases hrb with
  | @cells cs T n arr hw hl hr=>
    have hi:pre.length<arr.size:=by grind
    have:=hr pre.length (.own b) arr[pre.length] (by simp) (by simp);cases this with
    |own h h1=>exact⟨_,h,h1⟩
 have hm1:=Fv h0 (λx=>(Gm (pre:=pre) (post:=post) hv h1).1) hm;refine(h v σ I w vs hI hl ha hm1 h64).mono ?_;rintro e w' ⟨u,σ',I',rfl,hp,hu⟩;refine⟨u,σ',I',rfl,{os:=hp.os,tape:=hp.tape,output:=hp.output,size:=hp.size,names:=hp.names,new:=hp.new,vH:=hp.vH,ib:=hp.ib,kQ:=λn hn=>?_,frame:=λn h1 h2=>hp.frame n h1 (λho=>h2 (PN h0 ho)),mem:=Fv h0 (λx=>(Gm (hp.names _ _ hv) h1).2) hp.mem,wP:=λq k hq=>?_,mine:=λn hn=>?_},hu⟩
 ·rcases hp.kQ n hn with g|g|g
  ·exact .inl g
  ·omega
  ·exact .inr (.inr (PN h0 g))
 ·rw[zU h0 (c:=.cells (pre'++ .d (.v v)::post') T)]at hq;by_cases hb:q=0
  ·exact .inl (by rw[zU h0 (c:=.cells [] T),aZ hb];simp)
  ·rw[aT hb]at hq;rcases hp.wP q k hq with g|g
   ·left;rw[zU h0 (c:=.cells [] T),aT hb]at g⊢;exact g
   ·exact .inr g
 ·rcases hp.mine n (PN h0 hn)with g|g
  ·exact .inl (PN h0 g)
  ·exact .inr g
section
variable {ro : Option Nat} {dp : Nat} {J : Names -> (Nat -> Prop) -> World -> Prop}
def cC (ro:Option Nat)(dp:Nat)(J:Names->(Nat->Prop)->World->Prop)(P:Program)(nt:Nat)(R:Exit->X->Prop)(c:Code)(k:List It)(m:Nat)(x:X):Prop:=
 ∀E:Ctx,E.P=P->E.nt=nt->(∀s σ I a w,pF E s σ I a w->J σ I w)->∀a w,Rel E x.den a w->Code.roundsIn (FW ro) dp P c (eE ro dp J E k (tE E R)) m a w
theorem aH.rounds {P:Program}{nt:Nat}{R:Exit->X->Prop}{c:Code}{k:List It}{x:X}(m:Nat)(h:cC ro dp J P nt R c k m x):aH ro dp J P nt R c k x:=
 λE hP hn hJ a w hr=>wpIn_loop_rounds m (h E hP hn hJ a w hr)
theorem cC.step {P:Program}{nt:Nat}{R:Exit->X->Prop}{c:Code}{k:List It}{m:Nat}{x:X}(hm:P.follows .mixedOrders=true)(hk:clean k=true)
  (h:CI ro dp J P nt R (.code c:: .stop (cC ro dp J P nt R c k m)::k) x):cC ro dp J P nt R c k (m+1) x:=by
 intro E hP hn hJ a w hr;have:=(AO hm h E hP hn hJ).1 (by simpa[clean,j7]using hk) a w hr;simp only[eE]at this;rw[roundsIn_succ];subst hP;refine AP this (λe a' w' hq=>?_);cases e with
 |normal=>
  simp only[eE,Exit.then]at hq⊢;obtain⟨y,hy,hB⟩:=hq;exact hB E rfl hn hJ a' w' hy
 |_=>simpa only[eE,Exit.then]using hq
theorem cC.s {P:Program}{nt:Nat}{R:Exit->X->Prop}{cd:Code}{k:List It}{m:Nat}{x:X}(h:AI.bP ro dp J P nt R 99 400 (.code cd:: .stop (cC ro dp J P nt R cd k m)::k) x)(hm:P.follows .mixedOrders=true:=by decide+kernel)(hk:clean k=true:=by rfl):cC ro dp J P nt R cd k (m+1) x:=
 .step hm hk (.run 99 400 (by exact hk) h)
end
end Go.AI
