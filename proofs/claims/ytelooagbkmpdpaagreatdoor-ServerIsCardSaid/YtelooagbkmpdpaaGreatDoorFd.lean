/-
  A FRAMEWORK OF MY OWN (4)
-/
import Derived.Test.YtelooagbkmpdpaaGreatDoorFc
import Derived.RangeFuncCalls
import Derived.RangeFuncLeaves
import Derived.RangeFuncOwn
import Derived.Shelf.Abstract
import Derived.Lib.IndexLaws
import Derived.Shelf.SlSortCmp.NoneTotal
import Derived.Scope
set_option linter.unusedSimpArgs false
set_option linter.unusedVariables false
set_option maxRecDepth 100000
set_option maxHeartbeats 8000000
section
open Go.RowKit
namespace Go.AI
variable {F : Fence} {n m : Nat} {P : Program}
def YQ :Exit->Option (Option Code)
 |.normal=>some none
 |.ret=>some (some .ret)
 |.exit id=>some (some (.exit id))
 |.goto t=>some (some (.goto t))
 |_=>none
def TM (l:Nat)(R:Ending->World->Prop)(e:Exit)(_:Act)(W3:World):Prop:=
 ∃jump,YQ e=some jump/\∃q,W3.heap[l]? =some (.loop q)/\R (.returned (.bool jump.isNone)) (W3.putObj l (.loop {q with state:=if jump.isNone then .ready else .done,pending:=jump}))
theorem TL {l:Nat}{r:Loop}{args:Array Value}{W:World}{R:Ending->World->Prop}(hl:W.heap[l]? =some (.loop r))(hr:r.state=.ready)(hs:args.size=r.params.size)(hF:F.fn r.fn)(a₁:Act)
  (W₁:World) (hl₁:W₁.heap[l]? =some (.loop r))
  (hassign:∀K:Act->World->Prop,K a₁ W₁->r.assign.wpIn (F.inRound l) m P (Exit.then K (λ_ _ _=>False)) {tmps:=(r.params.zip args).foldl (λt (p,v)=>t.setIfInBounds p v) r.tmps,defers:=[]} W)
  (hbody:r.body.wpIn (F.inRound l) m P (TM l R)
    a₁ (W₁.putObj l (.loop {r with state:=.busy}))):YieldAt F m P l args W R:=by
 refine⟨r.fn,_,r.assign,r.body,run_yield hl hs,roundIn_of_wpIn hF (hassign _ ⟨_,run_beginRound hl₁ hr,oI hbody ?_⟩)⟩;rintro e a3 W3 ⟨jump,hj,q,hq,hR⟩;cases e with
 |normal=>cases hj;exact⟨_,_,run_endRound none hq,hR⟩
 |ret=>cases hj;exact⟨_,_,run_endRound (some .ret) hq,hR⟩
 |exit id=>cases hj;exact⟨_,_,run_endRound (some (.exit id)) hq,hR⟩
 |goto t=>cases hj;exact⟨_,_,run_endRound (some (.goto t)) hq,hR⟩
 |panic ch=>cases hj
 |outgrown=>cases hj
theorem II {g:Operand}{ps:Array Tmp}{assign body:Code}{Q:Exit->Act->World->Prop}{a:Act}{w:World}(hro:F.round=none)(h1:1<=n){gf:Nat}{lb:Array Value}(hg:a.eval g=.func (.func gf) #[] lb)(hFg:F.fn gf)
  (eg:∀args w,(callFunc gf args).run P w=.ok (.enter gf args) w)
  (h:∀fn,F.fn fn->∀r:Loop,r={state:=.ready,pending:=none,fn,tmps:=a.tmps,params:=ps,assign,body,defers:=w.heap.size}->
    CallsIn F (n-1) P gf (#[.func (.yield (w.heap.size+1)) #[] #[]]++lb) ((w.alloc (.deferred (some []))).alloc (.loop r)) λe W=>(∃v,e=.returned v)/\∃q:Loop,W.heap[w.heap.size+1]? =some (.loop q)/\q.state≠ .busy/\
     (match q.pending with
       |none=>Q .normal {a with defers:={target:=.collected w.heap.size,args:=#[]}::a.defers} (W.putObj (w.heap.size+1) (.loop {q with state:=.exhausted}))
       |some c=>c.wpIn F n P Q {a with defers:={target:=.collected w.heap.size,args:=#[]}::a.defers} (W.putObj (w.heap.size+1) (.loop {q with state:=.exhausted})))):
  (Code.rangeFunc g ps assign body).wpIn F n P Q a w:=by
 refine wpIn_rangeFunc ?_;intro fn hfn;rw[hro];obtain⟨r,hr⟩:∃r:Loop,r={state:=.ready,pending:=none,fn,tmps:=a.tmps,params:=ps,assign,body,defers:=w.heap.size}:=⟨_,rfl⟩;obtain⟨W1,hW1⟩:∃W1,(w.alloc (.deferred (some []))).alloc (.loop r)=W1:=⟨_,rfl⟩;refine⟨w.heap.size+1,[{target:=.collected w.heap.size,args:=#[]}],W1,{target:=.fn (.func gf) lb,args:=#[.func (.yield (w.heap.size+1)) #[] #[]]},W1,gf,
  #[.func (.yield (w.heap.size+1)) #[] #[]]++lb,W1,?_,?_,?_,?_,λ_=>h1,?_⟩
 ·rw[<-hW1,hr];exact run_enterLoop_outer _ _ _ _ _
 ·simp only[resolve,hg];simp[go_sem]
 ·intro f' hf';simp[Target.leads]at hf';subst hf';exact hFg
 ·simp[go_sem,eg]
 ·rw[<-hW1];refine(h fn hfn r hr).mono ?_;rintro e W2 ⟨⟨v,rfl⟩,q,hq,hb,hk⟩;exact⟨q.pending,_,run_endLoop hq hb,hk⟩
theorem Ct.grow {P:Program}{f:FuncId}{xs:List Value}{r:Value}(h:∀w,Calls P f xs.toArray w λe w'=>e=.returned r/\Below w.heap.size w w'/\w.drawn<=w'.drawn):Ct P f (xs.map λx=>.d (.v x)) [] [] (.d (.v r)) []:=by
 intro σ I w vs hI hl ha hm hn;have e:vs=xs:=by
  refine yJ λi=>?_;by_cases hi:i<vs.length
  ·have hi':i<xs.length:=by simpa[hl]using hi
   have:=ha i (.d (.v xs[i])) vs[i] (by simp) (by simp);generalize e1:vs[i]=y at this;generalize e2:xs[i]=z at this;have e:y=z:=by
    cases this with
    |d h=>cases h with
     |v=>rfl
   simp[hi,hi',e1,e2,e]
  ·simp_all
 subst e;refine(h w).mono λe w' ⟨h1,hb,hd⟩=>⟨r,σ,I,h1,?_,.d (.v r)⟩;refine⟨hb.os,hb.tape,⟨hb.output,hd⟩,hb.size,λ_ _ h=>h,λ_ h h'=>absurd h h',λ_ h=>h,λn hn=>pD (hI n hn) hb.size,λ_ h=>.inl h,λn hn _=>hb.block n hn,?_,λb k h=>by simp at h,λn ho=>?_⟩
 ·exact⟨λb k h=>by simp at h,λb b' k k' x x' n h=>by simp at h⟩
 ·simp_all
end Go.AI
end
namespace Go.AI
def nJ (gv:List Nat)(x:X)(t:Nat):AV:=cX (λb=>!gv.contains b) (bG x.mm) 8 (bH x.tm t)
def oW (e:aG)(gv:List Nat):aG:=⟨e.res,e.rd,e.wr++gv.map λb=>(b,none)⟩
attribute [simp] oW
@[simp] theorem lenAll_take' {es:List (List D)}{n:Nat}(k:Nat)(h:gL es n=True):gL (es.take k) n=True:=
  eq_true λe he=>of_eq_true h e (rL he)
section
variable {ro : Option Nat} {dp : Nat} {J : Names -> (Nat -> Prop) -> World -> Prop}
theorem CI.Dq {P:Program}{nt:Nat}{R:Exit->X->Prop}{ops:Array Oper}{o:Oper}{rest:List Oper}{i:Nat}{ft:List (List Nat×List Nat)}{draw:Bool}{k:List It}{x:X}{c:Call}{fo:Operand}{f:FuncId}{first captured:List AV}{args:List AV}{mr m m':List (Nat×aN)}{res:AV}(gv bn:List Nat)
  (hct:Ct P f args mr m res m') (hen:Enters P f) (ho:o.op=.call c) (hc:c.callee=.value fo) (hdst:fR nt o.dst=true) (hg:o.guard=none\/∃g wa,o.guard=some (g,wa)/\iM ops g (bH x.tm)=some wa)
  (hf:kV (ev (nJ gv x) fo)=some (f,first,captured)) (ha:cG.leL (first++c.args.toList.map (ev (nJ gv x))++captured) (args.map (AV.aW (bT bn (x.nx+64*i))))) (hn:oH bn args mr m res m')
  (hk:∀p∈mr++m,fK gv (bG x.mm) (bT bn (x.nx+64*i) p.1)=some (p.2.aW (bT bn (x.nx+64*i)))) (hgv:∀b,b∈gv->(bG x.mm b).isSome=true)
  (h:CI ro dp J P nt R (.ops ops rest (i+1) (ft++[(oW (eS bn (x.nx+64*i) mr m res m') gv).jC]) draw::k) (x.app o.dst (oW (eS bn (x.nx+64*i) mr m res m') gv))):CI ro dp J P nt R (.ops ops (o::rest) i ft draw::k) x:=
 .op _ hdst hg (aO.kL (by simp[pM,ho]) (aO.xD gv hgv (J3 ho hc _ _ _ hf hen hct ha hn hk))) h
end
open Go.Sort Go.Proofs Go.RowKit Go.Shelf
theorem ZT {w w':World}(hs:w.heap.size<=w'.heap.size)(hf:∀n,n<w.heap.size->w'.heap[n]? =w.heap[n]?)(ho:w'.os=w.os)(ht:w'.tape=w.tape)(hout:w'.output=w.output)(hd:w.drawn<=w'.drawn):
  ∃q os,w'=grow (w.drewN q) os:=by
 refine⟨w'.drawn-w.drawn,w'.heap.extract w.heap.size w'.heap.size,?_⟩;have e:w.heap++w'.heap.extract w.heap.size w'.heap.size=w'.heap:=by
  grind
 have e2:w.drawn+(w'.drawn-w.drawn)=w'.drawn:=by omega
 cases w;cases w';simp only[grow,World.drewN]at*;subst ho ht hout;rw[e,e2]
theorem Cx {α:Type} [Inhabited α]{P:Program}{g:FuncId}{enc:α->List Value}{k:Nat}{cf:α->α->Int}
  (hc:∀a b:α,Ct P g [.agg ((enc a).map λv=>.d (.v v)),.agg ((enc b).map λv=>.d (.v v))] [] [] (.d (.v (.int .i64 (cf a b)))) []) (aS off size:Nat) (w:World):
  CmpLays P g #[] enc k cf aS off size w:=by
 intro m os dk hs x y;have hv:∀(I:Nat->Prop) (W:World) (z:α),RV qV I W (.agg ((enc z).map λv=>.d (.v v))) (.agg (enc z).toArray):=λI W z=>.agg (by simp) λi c v h1 h2=>by
  simp only[fN]at h1;obtain⟨u,h3,rfl⟩:=iU.1 h1;rw[h2]at h3;cases h3;exact .d (.v _)
 refine(hc x y qV (λ_=>False) _ [.agg (enc x).toArray,.agg (enc y).toArray] (λ_ h=>h.elim) rfl (λi c v h1 h2=>?_) ⟨λb k hb=>by simp at hb,λb b' k k' x x' n hb=>by simp at hb⟩ (λ_ _=>rfl)).mono λe W' ⟨v,σ',I',he,hp,hr⟩=>?_
 ·grind
 ·rw[cH hr]at he;refine⟨he,ZT hp.size (λn hn=>hp.frame n hn (by rintro⟨b,_,_,hb,_⟩;simp at hb)) hp.os hp.tape hp.output.eq hp.output.drawn⟩
variable {α : Type} [Inhabited α]
theorem Ct.sort {P:Program}{f g:FuncId}{enc:α->List Value}{k:Nat}(hk:0<k)(henc:∀x,(enc x).length=k)(h1:∀x,∀v∈enc x,v.oneCell'=true){cf:α->α->Int}{sortL:List α->List α}(hsl:∀l,(sortL l).length=l.length){T:TypeId}{l:List α}
  (hnone:∀(p:Option Addr) (cap:Nat) (fv:Value) (w:World),Calls P f #[.slice p 0 cap,fv] w λe w'=>e=.returned (.tuple #[])/\w'=w)
  (hsort:∀(aS off cap:Nat) (d:Array α) (w:World),CmpLays P g #[] enc k cf aS off d.size w->HoldsK enc k w aS off d->aS<w.heap.size->d.size<4611686018427387904->
    Calls P f #[.slice (some ⟨aS,off,none⟩) d.size cap,.func (.func g) #[] #[]] w λe w'=>e=.returned (.tuple #[])/\∃n os,w'=sortWorldK enc k w aS off n (sortL d.toList).toArray os)
  (hc:∀a b:α,Ct P g [.agg ((enc a).map λv=>.d (.v v)),.agg ((enc b).map λv=>.d (.v v))] [] [] (.d (.v (.int .i64 (cf a b)))) []) (hl:l.length<4611686018427387904):
  Ct P f [.own 0,.d (jY g)] [] [(0,.grow k (l.map λx=>(enc x).map D.v) T)] (.d (.v (.tuple #[]))) [(0,.grow k ((sortL l).map λx=>(enc x).map D.v) T)]:=by
 intro σ I w vs hI hlen ha hm hn
 match vs,hlen with
 |[y,fv],_=>
 have e1:=cH (ha 1 _ _ rfl rfl);subst e1;have hy:σ 0=some y:=by cases ha 0 _ _ rfl rfl with|own h _=>exact h
 obtain⟨y',hy',hrb,hnn⟩:=hm.aS 0 _ rfl;rw[hy]at hy';cases hy';have same:l=[]->Calls P f #[y,.func (.func g) #[] #[]] w λe w'=>∃v σ' I',e=.returned v/\cB σ I w (aP ([]++[(0,.grow k (l.map λx=>(enc x).map D.v) T)])) 64 σ' I' w' (aP ([]++[(0,.grow k ((sortL l).map λx=>(enc x).map D.v) T)]))/\RV σ' I' w' (.d (.v (.tuple #[]))) v:=by
  intro hl0;have e0:sortL l=[]:=gX (by rw[hsl,hl0];rfl);have hrb2:RB σ I w (.grow k [] T) y:=by simpa[hl0]using hrb
  have:∃p cap,y=.slice p 0 cap:=by
   cases hrb2 with
   |none=>exact⟨_,_,rfl⟩
   |emp a=>exact⟨_,_,rfl⟩
   |grow=>exact⟨_,_,rfl⟩
  obtain⟨p,cap,rfl⟩:=this;refine(hnone p cap _ w).mono λe w' ⟨he,hw⟩=>⟨_,σ,I,he,?_,.d (.v _)⟩;subst hw;rw[e0];subst hl0;exact cB.IH hI hm
 by_cases hl0:l=[]
 ·exact same hl0
 generalize hes:(l.map λx=>(enc x).map D.v)=es at hrb hm;have hlen':es.length=l.length:=by rw[<-hes];simp
 cases hrb with
 |none=>exact absurd (gX hlen'.symm) hl0
 |emp a=>exact absurd (gX hlen'.symm) hl0
 | @grow sz es T n cap arr hw hlc hcap hmax hsz hr=>
   have hcap0:0<cap:=by
    rcases mX l.length with h|h
    ·exact absurd (gX h) hl0
    ·omega
   have hhb:hb (.slice (some ⟨n,0,none⟩) es.length cap)=some n:=mR hcap0;have hblk:n<w.heap.size:=(hnn n hhb).1;have cell:∀(i j:Nat),i<l.length->j<k->arr[i*k+j]? =some (enc l.toArray[i]!)[j]! :=by
    intro i j hi hj;obtain⟨x,hx⟩:∃x,l[i]? =some x:=⟨_,bL hi⟩;have hv:(enc x)[j]? =some ((enc x)[j]'(by rw[henc];exact hj)):=bL _;obtain⟨u,h2,h3,_⟩:=hr i ((enc x).map D.v) j (.v ((enc x)[j]'(by rw[henc];exact hj))) (by rw[<-hes];simp[hx]) (by simp);rw[h2];have:u=(enc x)[j]'(by rw[henc];exact hj):=by cases h3;rfl
    rw[this];have e2:l.toArray[i]! =x:=by
     rw[uC l.toArray i (by simpa using hi)];simpa[hi]using hx
    rw[e2,uC (enc x) j (by rw[henc];exact hj)]
   have hH:HoldsK enc k w n 0 l.toArray:=by
    intro t ht;rw[size_flatK]at ht;have ht':t<l.length*k:=by simpa using ht
    have hd:=Nat.div_lt_of_lt_mul (qD _ _▸ht');have hm':=Nat.mod_lt t hk;rw[get_flatK _ _ _ _ ht];have:=cell (t/k) (t%k) hd hm';rw[qD,Nat.div_add_mod]at this;refine⟨?_,?_⟩
    ·simp only[World.cell?,hw];simpa using this
    ·simp[World.frozen?,hw]
   have hcall:=hsort n 0 cap l.toArray w (Cx hc _ _ _ _) hH hblk (by simpa using hl);have hyy:(Value.slice (some ⟨n,0,none⟩) es.length cap)=.slice (some ⟨n,0,none⟩) l.toArray.size cap:=by rw[hlen'];simp
   have hcall':Calls P f #[.slice (some ⟨n,0,none⟩) es.length cap,.func (.func g) #[] #[]] w λe w'=>e=.returned (.tuple #[])/\∃m os,w'=sortWorldK enc k w n 0 m (sortL l).toArray os:=by
    rw[hyy];simpa using hcall
   refine hcall'.mono λe w' ⟨he,m,os,hw'⟩=>⟨_,σ,I,he,?_,.d (.v _)⟩;obtain⟨arr',harr⟩:∃a,putCells id 0 (flatK enc k (sortL l).toArray) arr=a:=⟨_,rfl⟩;have hsize:arr'.size=arr.size:=by rw[<-harr];simp[putCells]
   have hheap:∀b,b<w.heap.size->w'.heap[b]? =if b=n then some (.cells arr' T (0,0))else w.heap[b]? :=by
    intro b hb;rw[hw'];simp only[sortWorldK,Go.Sort.grow,putRowK,putRow,mapBlock,Sort.ahead];rw[Array.getElem?_append_left (by simpa using hb),rN];by_cases hbn:b=n
    ·subst hbn;simp only[dY,hw,lF,onCells,harr]
    ·rw[aR (λh=>hbn h.symm),aR hbn]
   have hsz':w.heap.size<=w'.heap.size:=by rw[hw'];simp[sortWorldK,Go.Sort.grow,putRowK,putRow,mapBlock,Sort.ahead]
   have jW:∀b,I b->w'.heap[b]? =w.heap[b]? :=λb hb=>by
    rw[hheap b (hI b hb),aR];rintro rfl;exact(hnn b hhb).2 hb
   have own1:∀b,cR σ (aP ([]++[(0,.grow k es T)])) b->b=n:=by
    rintro b ⟨c,q,z,q1,q2,q3⟩;simp only[uI,aP]at q1;split at q1
    ·rename_i h0;subst h0;rw[hy]at q2;cases q2;rw[hhb]at q3;exact(kJ q3).symm
    ·cases q1
   have hown:cR σ (aP ([]++[(0,.grow k es T)])) n:=⟨0,_,_,rfl,hy,hhb⟩;have newcell:∀(i j:Nat),i<l.length->j<k->arr'[i*k+j]? =some (enc (sortL l).toArray[i]!)[j]! :=by
    intro i j hi hj;have lt:i*k+j<l.length*k:=by
     have:=mC k (show i+1<=l.length from hi);rw[fU,nO]at this;omega
    have hb2:i*k+j<arr.size:=by
     have:=cell i j hi hj;exact(e7.1 this).1
    rw[<-harr];simp only[putCells,Array.getElem?_mapIdx,iV hb2,lF,size_flatK,vU,hsl,jJ,rK,true_and,bA lt,yF,id];have e1:(i*k+j)/k=i:=(blk_iff k i _ hk).1 ⟨by omega,by omega⟩;have e2:(i*k+j)%k=j:=by rw[Nat.mod_eq_sub_div_mul,e1];omega
    rw[get_flatK _ _ _ _ (by simpa[hsl]using lt),e1,e2]
   refine⟨by rw[hw'];rfl,by rw[hw'];rfl,⟨by rw[hw'];rfl,by rw[hw'];exact Nat.le_add_right _ _⟩,hsz',λ_ _ h=>h,λ_ h h'=>absurd h h',λ_ h=>h,λb hb=>pD (hI b hb) hsz',λ_ h=>.inl h,λb hb ho=>?_,⟨λb q hq=>?_,λb b' q q' x x' c q1 q2 q3 q4 q5 q6=>?_⟩,λb q hq=>?_,λb ho=>?_⟩
   ·rw[hheap b hb,aR];rintro rfl;exact ho hown
   ·simp only[uI,aP]at hq;split at hq
    ·rename_i h0;subst h0;cases hq;refine⟨_,hy,?_,λc hc'=>?_⟩
     ·have hll:(List.map (λx=>List.map D.v (enc x)) (sortL l)).length=es.length:=by simp[hsl,hlen']
      rw[show(Value.slice (some ⟨n,0,none⟩) es.length cap)=.slice (some ⟨n,0,none⟩) (List.map (λx=>List.map D.v (enc x)) (sortL l)).length cap by rw[hll]];refine .grow (by rw[hheap n hblk,bA rfl]) (by rw[hsize];exact hlc) (by rw[hll];exact hcap) hmax (λe he=>?_) (λi e j c h2 h3=>?_)
      ·simp only[dV]at he;obtain⟨x,_,rfl⟩:=he;simp[henc]
      ·simp only[fN]at h2;obtain⟨x,h4,rfl⟩:=iU.1 h2;simp only[fN]at h3;obtain⟨u,h5,rfl⟩:=iU.1 h3;have hi:i<l.length:=by rw[<-hsl];exact(cJ.1 h4).1
       have hj:j<k:=by rw[<-henc x];exact(cJ.1 h5).1
       refine⟨_,newcell i j hi hj,?_,?_⟩
       ·have e2:(sortL l).toArray[i]! =x:=by
         rw[uC (sortL l).toArray i (by simpa[hsl]using hi)];simpa[cJ,hsl,hi]using h4
        have e3:(enc x)[j]! =u:=by
         rw[uC (enc x) j (by rw[henc];exact hj)];have:=bL (l:=enc x) (i:=j) (by rw[henc];exact hj);rw[this]at h5;exact kJ h5
        rw[e2,e3];exact .v _
       ·have e2:(sortL l).toArray[i]! =x:=by
         rw[uC (sortL l).toArray i (by simpa[hsl]using hi)];simpa[cJ,hsl,hi]using h4
        rw[e2,uC (enc x) j (by rw[henc];exact hj)];exact h1 x _ (mD _)
     ·rw[hhb]at hc';cases hc';exact⟨pD hblk hsz',(hnn n hhb).2⟩
    ·cases hq
   ·simp only[uI,aP]at q1 q2;split at q1
    ·split at q2
     ·omega
     ·cases q2
    ·cases q1
   ·left;simp only[uI,aP]at hq⊢;split at hq
    ·rename_i h0;simp[h0]
    ·cases hq
   ·left;obtain⟨c,q,z,q1,q2,q3⟩:=ho;simp only[uI,aP]at q1;split at q1
    ·rename_i h0;subst h0;exact⟨0,_,z,rfl,q2,q3⟩
    ·cases q1
end Go.AI
namespace Go.AI
theorem RB.WY {σ:Names}{I:Nat->Prop}{w:World}{k:aN}{x:Value}{n:Nat}{r:Loop}(h:RB σ I w k x)(hn:hb x=some n):w.heap[n]? ≠some (.loop r):=by
 cases h with
 |cells h1 h2 h3=>simp[hb]at hn;subst hn;rw[h1];simp
 |none=>simp[hb]at hn
 |emp a=>simp[hb]at hn
 | @grow sz es T n' cap arr h1 h2 h3 h4 h5 h6=>
   cases cap with
   |zero=>simp[hb]at hn
   |succ cap=>simp[hb]at hn;subst hn;rw[h1];simp
 |map keys vals h1 _ _ _ _ _=>simp[hb]at hn;subst hn;rw[h1];simp
 |iL keys vals h1 _ _ _ _ _ _ _ _=>simp[hb]at hn;subst hn;rw[h1];simp
 |cL h1 _=>simp[hb]at hn;subst hn;rw[h1];simp
 |iter h1 h2=>subst h2;simp[hb]at hn;subst hn;rw[h1];simp
 |oV=>simp[hb]at hn
 |n3 a=>simp[hb]at hn
 |cQ h1 h2 h3 h4 h5=>simp[hb]at hn;subst hn;rw[h1];simp
theorem zL {σ:Names}{I:Nat->Prop}{w:World}{m:Mem}(hm:RM σ I w m){n:Nat}{r:Loop}(hn:w.heap[n]? =some (.loop r)):¬cR σ m n:=by
 rintro⟨b,k,x,h1,h2,h3⟩;obtain⟨x',h4,h5,_⟩:=hm.aS b k h1;rw[h2]at h4;cases h4;exact h5.WY h3 hn
def zC (m m':List (Nat×aN)):Exit->X->Prop:=λe x=>e=.normal/\qC (bG x.mm) (.d (.v undef)) m (.d (.v undef)) m' []
theorem TG {P:Program}{nt L dp:Nat}{r:Loop}{tmA tmB:List (Nat×AV)}{m0 m1 mB:List (Nat×aN)}{nxB:Nat}(hm:P.follows .mixedOrders=true)(hrs:r.state=.ready)(hrp:r.pending=none)
  (hA:CI (some L) dp (λ_ _ _=>True) P nt (λe x=>e=.normal/\AI.Sub x tmB mB nxB []) [.code r.assign] ⟨tmA,m0.map (λp=>(p.1,some p.2)),64⟩)
  (hB:CI (some L) dp (λ_ _ _=>True) P nt (zC m0 m1) [.code r.body] ⟨tmB,mB.map (λp=>(p.1,some p.2)),nxB⟩)
  {T:Array Value} {w:World} {σ:Names} {I:Nat->Prop} (hib:∀n,I n->n<w.heap.size) (hsz:T.size=nt) (htm:∀t,RV σ I w (bH tmA t) (T.getD t undef)) (hrm:RM σ I w (aP m0)) (hlow:∀b,64<=b->σ b=none)
  (hL:w.heap[L]? =some (.loop r)) (hI:¬I L):
  RoundIn (FW none) dp P L r.fn T r.assign r.body w (λe w'=>e=.returned (.bool true)/\∃I',cB σ I w (aP m0) 64 σ I' w' (aP m1)):=by
 refine roundIn_of_wpIn (F:=FW none) trivial ?_;have hLlt:L<w.heap.size:=(e7.1 hL).1
 let E1:Ctx:={P:=P,w0:=w,iQ:=cR σ (aP m0),I0:=I,nt:=nt,s0:=σ}
 have hlk:bG (m0.map λp=>(p.1,some p.2))=aP m0:=tB _;have hrel1:Rel E1 (X.den ⟨tmA,m0.map (λp=>(p.1,some p.2)),64⟩) {tmps:=T,defers:=[]} w:=by
  refine⟨σ,I,hsz,rfl,htm,?_,λb hb=>hlow b hb,hib,λ_ h=>h,λn h=>.inl h,λn h=>?_,rfl,rfl,⟨rfl,aY _⟩,aY _,λ_ _ _=>rfl,λ_ _ h=>h,hlow⟩
  ·show RM σ I w (bG _);rw[hlk];exact hrm
  ·have h':cR σ (bG (m0.map λp=>(p.1,some p.2))) n:=h;rw[hlk]at h';exact .inl h'
 have hw:=(pA hm hA E1 rfl rfl (λ_ _ _ _ _ _=>trivial)).1 rfl _ w hrel1;simp only[bY]at hw;refine oI hw (λe a1 w1 hq=>?_);obtain⟨x,hx,rfl,hsub⟩:lP E1 (λe x=>e=.normal/\AI.Sub x tmB mB nxB []) e a1 w1:=by
  cases e<;>simpa using hq
 obtain⟨σ2,I2,hr2⟩:=Rel.sub hsub hx;have hnb:¬cR σ (aP m0) L:=zL hrm hL;have hL1:w1.heap[L]? =some (.loop r):=(hr2.frame L hLlt hnb).trans hL;have hI2:¬I2 L:=λh=>by
  rcases hr2.fB L h with g|g|g
  ·exact hI g
  ·exact hnb g
  ·have g':w.heap.size<=L:=g;omega
 have hlkB:bG (mB.map λp=>(p.1,some p.2))=aP mB:=tB _;have hmB:RM σ2 I2 w1 (aP mB):=by rw[<-hlkB];exact hr2.mm
 have hnB:¬cR σ2 (aP mB) L:=zL hmB hL1;obtain⟨W,hW⟩:∃W,w1.putObj L (.loop {r with state:=.busy})=W:=⟨_,rfl⟩;have hLlt1:L<w1.heap.size:=(e7.1 hL1).1;have hWo:∀n,n≠L->W.heap[n]? =w1.heap[n]? :=λn h=>by rw[<-hW];exact World.putObj_heap_other h
 have hWL:W.heap[L]? =some (.loop {r with state:=.busy}):=by rw[<-hW];exact World.putObj_heap_same hLlt1
 have hWs:W.heap.size=w1.heap.size:=by rw[<-hW];simp
 have hmB':RM σ2 I2 W (aP mB):=by
  refine⟨λb k hb'=>?_,λb b' k k' x x' n h1 h2 h3 h4 h5 h6=>hmB.apart b b' k k' x x' n h1 h2 h3 h4 h5 h6⟩;obtain⟨y,hy,hrb,hn⟩:=hmB.aS b k hb';refine⟨y,hy,hrb.mono (λn h=>hWo n (λe=>hI2 (e▸h))) (λ_ h=>h) (λ_ _ h=>h) (λn h=>hWo n (λe=>?_)),λn h=>⟨by rw[hWs];exact(hn n h).1,(hn n h).2⟩⟩;subst e;exact hnB ⟨b,k,y,hb',hy,h⟩
 refine⟨W,by rw[<-hW];exact run_beginRound hL1 hrs,?_⟩
 let E2:Ctx:={P:=P,w0:=W,iQ:=cR σ2 (aP mB),I0:=I2,nt:=nt,s0:=λb=>if b<64 then σ2 b else none}
 have hrel2:Rel E2 (X.den ⟨tmB,mB.map (λp=>(p.1,some p.2)),nxB⟩) a1 W:=by
  refine⟨σ2,I2,hr2.size,hr2.kU,λt=>(hr2.tm t).mono (λn h=>hWo n (λe=>hI2 (e▸h))) (λ_ h=>h) (λ_ _ h=>h),?_,hr2.free,λn h=>by rw[hWs];exact hr2.ib n h,λ_ h=>h,λn h=>.inl h,λn h=>?_,rfl,rfl,⟨rfl,aY _⟩,aY _,λ_ _ _=>rfl,λb y hy=>?_,λb hb'=>?_⟩
  ·show RM σ2 I2 W (bG _);rw[hlkB];exact hmB'
  ·have h':cR σ2 (bG (mB.map λp=>(p.1,some p.2))) n:=h;rw[hlkB]at h';exact .inl h'
  ·simp only[E2]at hy;split at hy
   ·exact hy
   ·cases hy
  ·simp only[E2];rw[aR (by omega)]
 have hwB:=(pA hm hB E2 rfl rfl (λ_ _ _ _ _ _=>trivial)).1 rfl _ W hrel2;simp only[bY]at hwB;refine oI hwB (λe a2 w2 hq2=>?_);obtain⟨y,⟨σf,If,hrf⟩,rfl,hfin⟩:lP E2 (zC m0 m1) e a2 w2:=by
  cases e<;>simpa using hq2
 have hL2:w2.heap[L]? =some (.loop {r with state:=.busy}):=(hrf.frame L (by show L<W.heap.size;omega) hnB).trans hWL;refine⟨_,_,run_endRound none hL2,?_⟩;have hre:({{r with state:=.busy}with state:=if(none:Option Code).isNone then .ready else .done,pending:=none}:Loop)=r:=by
  cases r;simp at hrs hrp;subst hrs;subst hrp;rfl
 rw[hre];obtain⟨w3,hw3⟩:∃w3,w2.putObj L (.loop r)=w3:=⟨_,rfl⟩;have hLlt2:L<w2.heap.size:=(e7.1 hL2).1;have h3o:∀n,n≠L->w3.heap[n]? =w2.heap[n]? :=λn h=>by rw[<-hw3];exact World.putObj_heap_other h
 have h3L:w3.heap[L]? =some (.loop r):=by rw[<-hw3];exact World.putObj_heap_same hLlt2
 have h3s:w3.heap.size=w2.heap.size:=by rw[<-hw3];simp
 have h3os:w3.os=w2.os:=by rw[<-hw3];rfl
 have h3tape:w3.tape=w2.tape:=by rw[<-hw3];rfl
 have h3out:lC w3 w2:=by rw[<-hw3];exact⟨rfl,aY _⟩
 have hWos:W.os=w1.os:=by rw[<-hW];rfl
 have hWtape:W.tape=w1.tape:=by rw[<-hW];rfl
 have hWout:lC W w1:=by rw[<-hW];exact⟨rfl,aY _⟩
 rw[hw3];have hmf:RM σf If w2 (bG y.mm):=hrf.mm;have e2hs:W.heap.size<=w2.heap.size:=hrf.hs;have e1hs:w.heap.size<=w1.heap.size:=hr2.hs;have own2:∀n,cR σ2 (aP mB) n->cR σ (aP m0) n\/w.heap.size<=n:=λn h=>hr2.eM n (by
  show cR σ2 (bG _) n;rw[hlkB];exact h)
 have hIf:¬If L:=λh=>by
  rcases hrf.fB L h with g|g|g
  ·exact hI2 g
  ·exact hnB g
  ·have g':W.heap.size<=L:=g;omega
 have hnf:¬cR σf (bG y.mm) L:=zL hmf hL2;have up:∀b,b<64->∀z,σ b=some z->σf b=some z:=λb hb' z hz=>by
  have h2:=hr2.jW b z hz;exact hrf.jW b z (by simp only[E2];rw[bA hb'];exact h2)
 have nm:∀b,bF m0 [] b=true->b<64/\∃k,aP m0 b=some k:=λb hb'=>by
  simp[bF]at hb';exact⟨hb'.1,oJ.1 hb'.2⟩
 have gid:∀b,gf [] b=b:=λb=>by simp
 have down:∀b,bF m0 [] b=true->∀z,σf (gf [] b)=some z->σ b=some z:=λb hb' z hz=>by
  obtain⟨h1,k,hk⟩:=nm b hb';obtain⟨z0,hz0,_⟩:=hrm.aS b k hk;have:=up b h1 z0 hz0;rw[gid,this]at hz;rw[hz0];exact hz
 have hblk:∀b k,aP m1 b=some k->∃u,σ b=some u/\σf b=some u/\bG y.mm b=some (k.aW (gf []))/\RB σ If w3 k u/\∀n,hb u=some n->n<w3.heap.size/\¬If n:=by
  intro b k hb';have hmem:=gR hb';have hpo:=hfin.post _ hmem;obtain⟨d1,d2⟩:=hfin.p8 _ hmem;simp only[gid]at hpo;obtain⟨u,hu,hrb,hnn⟩:=hmf.aS _ _ hpo;refine⟨u,down b d1 u (by rw[gid];exact hu),hu,hpo,?_,λn h=>⟨by rw[h3s];exact(hnn n h).1,(hnn n h).2⟩⟩;refine vP down (hrb.mono (λn h=>h3o n (λe=>hIf (e▸h))) (λ_ h=>h) (λ_ _ h=>h) (λn h=>h3o n (λe=>?_))) d2;subst e;exact hnf ⟨_,_,_,hpo,hu,h⟩
 have ownf:∀n,cR σ (aP m1) n->cR σf (bG y.mm) n:=by
  rintro n ⟨b,k,u,h1,h2,h3⟩;obtain⟨u',g1,g2,g3,_,_⟩:=hblk b k h1;rw[h2]at g1;cases g1;exact⟨b,_,u,g3,g2,h3⟩
 have mine2:∀n,cR σf (bG y.mm) n->cR σ (aP m0) n\/w.heap.size<=n:=λn h=>by
  rcases hrf.eM n h with g|g
  ·exact own2 n g
  ·have g':W.heap.size<=n:=g;exact .inr (by omega)
 refine⟨rfl,If,?_⟩;refine⟨h3os.trans (hrf.os.trans (hWos.trans hr2.os)),h3tape.trans (hrf.tape.trans (hWtape.trans hr2.tape)),h3out.trans (hrf.output.trans (hWout.trans hr2.output)),by omega,λ_ _ h=>h,λb h1 h2=>absurd h1 h2,λn h=>hrf.i0 n (hr2.i0 n h),λn h=>by rw[h3s];exact hrf.ib n h,λn h=>?_,λn h1 h2=>?_,⟨λb k hb'=>?_,λb b' k k' u u' n q1 q2 q3 q4 q5 q6=>?_⟩,λb k hb'=>?_,λn h=>mine2 n (ownf n h)⟩
 ·rcases hrf.fB n h with g|g|g
  ·rcases hr2.fB n g with g|g|g
   ·exact .inl g
   ·exact .inr (.inr g)
   ·exact .inr (.inl g)
  ·rcases own2 n g with g|g
   ·exact .inr (.inr g)
   ·exact .inr (.inl g)
  ·have g':W.heap.size<=n:=g;exact .inr (.inl (by omega))
 ·by_cases e:n=L
  ·subst e;rw[h3L,hL]
  ·rw[h3o n e,hrf.frame n (by show n<W.heap.size;omega) (λh=>?_),hWo n e]
   ·exact hr2.frame n h1 h2
   ·rcases own2 n h with g|g
    ·exact h2 g
    ·omega
 ·obtain⟨u,g1,g2,g3,g4,g5⟩:=hblk b k hb';exact⟨u,g1,g4,g5⟩
 ·obtain⟨v,g1,g2,g3,g4,g5⟩:=hblk b k q1;obtain⟨v',g1',g2',g3',g4',g5'⟩:=hblk b' k' q2;rw[q3]at g1;cases g1;rw[q4]at g1';cases g1';exact hmf.apart _ _ _ _ _ _ n g3 g3' g2 g2' q5 q6
 ·obtain⟨h1,q,hq'⟩:=nm b (hfin.p8 _ (gR hb')).1;left;rw[hq'];simp
theorem UW {E:Ctx}{w w':World}{σ σf:Names}{I If:Nat->Prop}{a:Act}{y:X}{m0 m1:List (Nat×aN)}(hw0:E.w0=w)(hbor:E.iQ=cR σ (aP m0))(hI0:E.I0=I)(hs0:E.s0=σ)
  (hrm:RM σ I w (aP m0)) (hrf:jH E y.den σf If a w') (hfin:qC (bG y.mm) (.d (.v undef)) m0 (.d (.v undef)) m1 []):cB σ I w (aP m0) 64 σ If w' (aP m1):=by
 subst hw0 hI0 hs0;have hmf:RM σf If w' (bG y.mm):=hrf.mm;have nm:∀b,bF m0 [] b=true->b<64/\∃k,aP m0 b=some k:=λb hb'=>by
  simp[bF]at hb';exact⟨hb'.1,oJ.1 hb'.2⟩
 have gid:∀b,gf [] b=b:=λb=>by simp
 have down:∀b,bF m0 [] b=true->∀z,σf (gf [] b)=some z->E.s0 b=some z:=λb hb' z hz=>by
  obtain⟨h1,k,hk⟩:=nm b hb';obtain⟨z0,hz0,_⟩:=hrm.aS b k hk;have:=hrf.jW b z0 hz0;rw[gid,this]at hz;rw[hz0];exact hz
 have hblk:∀b k,aP m1 b=some k->∃u,E.s0 b=some u/\σf b=some u/\bG y.mm b=some (k.aW (gf []))/\RB E.s0 If w' k u/\∀n,hb u=some n->n<w'.heap.size/\¬If n:=by
  intro b k hb';have hmem:=gR hb';have hpo:=hfin.post _ hmem;obtain⟨d1,d2⟩:=hfin.p8 _ hmem;simp only[gid]at hpo;obtain⟨u,hu,hrb,hnn⟩:=hmf.aS _ _ hpo;exact⟨u,down b d1 u (by rw[gid];exact hu),hu,hpo,vP down hrb d2,hnn⟩
 have eM:∀n,cR σf (bG y.mm) n->cR E.s0 (aP m0) n\/E.w0.heap.size<=n:=λn h=>by
  have:=hrf.eM n h
  rwa[hbor]at this
 refine⟨hrf.os,hrf.tape,hrf.output,hrf.hs,λ_ _ h=>h,λb h1 h2=>absurd h1 h2,λn h=>hrf.i0 n h,hrf.ib,λn h=>?_,λn h1 h2=>hrf.frame n h1 (by rw[hbor];exact h2),⟨λb k hb'=>?_,λb b' k k' u u' n q1 q2 q3 q4 q5 q6=>?_⟩,λb k hb'=>?_,λn h=>?_⟩
 ·rcases hrf.fB n h with g|g|g
  all_goals simp_all
 ·grind
 ·obtain⟨v,g1,g2,g3,g4,g5⟩:=hblk b k q1;obtain⟨v',g1',g2',g3',g4',g5'⟩:=hblk b' k' q2;rw[q3]at g1;cases g1;rw[q4]at g1';cases g1';exact hmf.apart _ _ _ _ _ _ n g3 g3' g2 g2' q5 q6
 ·obtain⟨h1,q,hq'⟩:=nm b (hfin.p8 _ (gR hb')).1;left;rw[hq'];simp
 ·obtain⟨b,k,u,h1,h2,h3⟩:=h;obtain⟨u',g1,g2,g3,_,_⟩:=hblk b k h1;rw[h2]at g1;cases g1;exact eM n ⟨b,_,u,g3,g2,h3⟩
def vR (s0:Names)(L:Nat)(r:Loop):Names->(Nat->Prop)->World->Prop:=λσ I w=>(∀b x,s0 b=some x->σ b=some x)/\w.heap[L]? =some (.loop r)/\¬I L
theorem vR.WO {E:Ctx}{s0:Names}{L:Nat}{r:Loop}{m0:List (Nat×aN)}{I0:Nat->Prop}(hs0:E.s0=s0)(hI0:E.I0=I0)(hbor:E.iQ=cR s0 (aP m0))(hrm:RM s0 I0 E.w0 (aP m0))(hL:E.w0.heap[L]? =some (.loop r))(hI:¬I0 L):
  ∀s σ I a w,jH E s σ I a w->vR s0 L r σ I w:=by
 intro s σ I a w hr;have hlt:L<E.w0.heap.size:=(e7.1 hL).1;have hnb:¬E.iQ L:=by rw[hbor];exact zL hrm hL
 refine⟨λb x h=>hr.jW b x (by rw[hs0];exact h),(hr.frame L hlt hnb).trans hL,λh=>?_⟩;rcases hr.fB L h with g|g|g
 all_goals grind
def rO (m0 m1:List (Nat×aN)):aG:=⟨.d (.v (.bool true)),[],m0.map λp=>(p.1,aP m1 p.1)⟩
theorem GN {m0:List (Nat×aN)}{f:Nat->Option aN}(b:Nat):wrote (m0.map λp=>(p.1,f p.1)) b=if(aP m0 b).isSome then some (f b)else none:=by
 induction m0 with
 |nil=>simp
 |cons p m ih=>
  obtain⟨c,k⟩:=p;simp
  grind
theorem PB {m0 m1:List (Nat×aN)}{mem:Mem}(hk:∀b k,aP m0 b=some k->mem b=some k):(rO m0 m1).mr mem=aP m0:=by
 funext b
 simp only[aG.mr,rO,GN];cases h:aP m0 b with
 |none=>simp
 |some k=>simpa using hk b k h
theorem PA {m0 m1:List (Nat×aN)}{mem:Mem}(hs:∀b k,aP m1 b=some k->(aP m0 b).isSome=true):(rO m0 m1).mw mem=aP m1:=by
 funext b
 simp only[aG.mw,rO,GN];cases h:aP m0 b with
 |none=>
  cases h1:aP m1 b with
  |none=>rfl
  |some k=>have:=hs b k h1;rw[h]at this;cases this
 |some k=>simp
theorem cB.WQ {σ:Names}{I I':Nat->Prop}{w w':World}{m0 m1:List (Nat×aN)}{nm:Nat}(hid:∀p∈m1,p.2.aW id=p.2)(h0:∀p∈m0,p.1<64)(h1:∀p∈m1,p.1<64)
  (hs:∀b k,aP m1 b=some k->(aP m0 b).isSome=true)
  (hp:cB (λb=>if b<64 then σ b else none) I w (aP m0) 64 (λb=>if b<64 then σ b else none) I' w' (aP m1)):cB σ I w (aP m0) nm σ I' w' (aP m1):=by
 have low:∀b,b<64->∀x,σ b=some x->(λb=>if b<64 then σ b else none) b=some x:=λb hb x hx=>by simp only[bA hb];exact hx
 have up:∀b x,(λb=>if b<64 then σ b else none) b=some x->σ b=some x:=λb x hx=>by
  simp_all
 have own:∀(m:List (Nat×aN)),(∀p∈m,p.1<64)->∀n,cR σ (aP m) n↔cR (λb=>if b<64 then σ b else none) (aP m) n:=λm hm n=>
  ⟨λ⟨b,k,x,a1,a2,a3⟩=>⟨b,k,x,a1,low b (hm _ (gR a1)) x a2,a3⟩,λ⟨b,k,x,a1,a2,a3⟩=>⟨b,k,x,a1,up b x a2,a3⟩⟩
 refine⟨hp.os,hp.tape,hp.output,hp.size,λ_ _ h=>h,λb h1 h2=>absurd h1 h2,hp.pV,hp.ib,λn h=>?_,λn a1 a2=>hp.frame n a1 (λh=>a2 ((own m0 h0 n).2 h)),⟨λb k hb'=>?_,λb b' k k' u u' n q1 q2 q3 q4 q5 q6=>?_⟩,λb k hb'=>?_,λn h=>?_⟩
 ·rcases hp.fB n h with g|g|g
  all_goals grind
 ·obtain⟨u,g1,g2,g3⟩:=hp.mem.aS b k hb';exact⟨u,up b u g1,g2.mono (λ_ _=>rfl) (λ_ h=>h) up (λ_ _=>rfl),g3⟩
 ·exact hp.mem.apart b b' k k' u u' n q1 q2 (low b (h1 _ (gR q1)) u q3) (low b' (h1 _ (gR q2)) u' q4) q5 q6
 ·grind
 ·rcases hp.eM n ((own m1 h1 n).1 h)with g|g
  all_goals grind
theorem RM.QD {σ:Names}{I:Nat->Prop}{w:World}{m0:List (Nat×aN)}(h0:∀p∈m0,p.1<64/\bI (λb=>decide (b<64)) p.2=true/\p.2.aW id=p.2)(h:RM σ I w (aP m0)):RM (λb=>if b<64 then σ b else none) I w (aP m0):=by
 have low:∀b,b<64->∀x,σ b=some x->(λb=>if b<64 then σ b else none) b=some x:=λb hb x hx=>by simp only[bA hb];exact hx
 have up:∀b x,(λb=>if b<64 then σ b else none) b=some x->σ b=some x:=λb x hx=>by
  simp_all
 refine⟨λb k hb=>?_,λb b' k k' u u' n q1 q2 q3 q4 q5 q6=>h.apart b b' k k' u u' n q1 q2 (up b u q3) (up b' u' q4) q5 q6⟩;obtain⟨u,g1,g2,g3⟩:=h.aS b k hb;obtain⟨p1,p2,p3⟩:=h0 _ (gR hb);refine⟨u,low b p1 u g1,?_,g3⟩;refine vP (σ:=σ) (g:=id) (p:=λb=>decide (b<64)) (λb hb x hx=>low b (by simpa using hb) x hx) ?_ p2;rw[p3];exact g2
theorem CI.yield {P:Program}{nt ntA L dp:Nat}{r:Loop}{tmA tmB:List (Nat×AV)}{m0 m1 mB:List (Nat×aN)}{nxB:Nat}{s0:Names}{R:Exit->X->Prop}{ops:Array Oper}{o:Oper}{rest:List Oper}{i:Nat}{ft:List (List Nat×List Nat)}{draw:Bool}{k:List It}{x:X}{c:Call}{q:Nat}
  (hm:P.follows .mixedOrders=true) (hrs:r.state=.ready) (hrp:r.pending=none) (hsz:r.tmps.size=ntA)
  (hA:CI (some L) (dp-1) (λ_ _ _=>True) P ntA (λe x=>e=.normal/\AI.Sub x tmB mB nxB []) [.code r.assign] ⟨tmA,m0.map (λp=>(p.1,some p.2)),64⟩)
  (hB:CI (some L) (dp-1) (λ_ _ _=>True) P ntA (zC m0 m1) [.code r.body] ⟨tmB,mB.map (λp=>(p.1,some p.2)),nxB⟩)
  (hdst:fR nt o.dst=true) (hg:o.guard=none\/∃g wa,o.guard=some (g,wa)/\iM ops g (bH x.tm)=some wa)
  (ho:o.op=.call c) (hc:c.callee=.value (.tmp q)) (hq:bH x.tm q=.d (.fn (.yield L) [] [])) (hps:c.args.size=r.params.size)
  (hT:∀(σ:Names) (I:Nat->Prop) (w:World) (vs:List Value),(∀b x,s0 b=some x->b<64->σ b=some x)->vs.length=c.args.size->(∀(i:Nat) y v,(c.args.toList.map (ev (bH x.tm)))[i]? =some y->vs[i]? =some v->cY (λb=>decide (b<64)) y=true->y.aW id=y->RV σ I w y v)->
    ∀t,RV σ I w (bH tmA t) (((r.params.zip vs.toArray).foldl (λtmps (t,a)=>tmps.setIfInBounds t a) r.tmps).getD t undef))
  (hp0:∀p∈m0,p.1<64/\bI (λb=>decide (b<64)) p.2=true/\p.2.aW id=p.2) (hp1:∀p∈m1,p.1<64/\p.2.aW id=p.2)
  (hsub:∀p∈m1,(aP m0 p.1).isSome=true) (hk:∀p∈m0,bG x.mm p.1=some p.2)
  (h:CI none dp (vR s0 L r) P nt R (.ops ops rest (i+1) (ft++[(rO m0 m1).jC]) draw::k) (x.app o.dst (rO m0 m1))):CI none dp (vR s0 L r) P nt R (.ops ops (o::rest) i ft draw::k) x:=by
 refine .op (rO m0 m1) hdst hg ?_ h;have hs:∀b k,aP m1 b=some k->(aP m0 b).isSome=true:=λb k h=>hsub _ (gR h);have hk':∀b k,aP m0 b=some k->bG x.mm b=some k:=λb k h=>hk _ (gR h);rw[PB hk',PA hs];intro a w σ I hJ hib hv hrm hfr next Q hnx;obtain⟨hkeep,hL,hI⟩:=hJ;have harg:∀y∈c.args.toList,RV σ I w (ev (bH x.tm) y) (a.eval y):=λy hy=>bO λs e=>hv s (by subst e;simp[ho,Op.operands,Call.operands];exact .inr (by simpa using hy));have hf:a.tmps.getD q undef=.func (.yield L) #[] #[]:=by
  have:=hv q (by simp[ho,Op.operands,Call.operands,hc]);rw[hq]at this;generalize a.tmps.getD q undef=z at this;cases this with
  |d h=>cases h with
   | @fn f first captured xs ys hx hy h1 h2=>
     have e1:xs=[]:=gX (by simpa using hx);have e2:ys=[]:=gX (by simpa using hy);subst e1 e2;rfl
 let vs:=c.args.toList.map a.eval
 have hvs:(c.args.map a.eval)=vs.toArray:=by apply Array.ext';simp[vs]
 have hrun:(execOp a.eval o).run P w=.ok (.round L r.fn ((r.params.zip vs.toArray).foldl (λtmps (t,a)=>tmps.setIfInBounds t a) r.tmps) r.assign r.body) w:=by
  have e0:a.eval (.tmp q)=.func (.yield L) #[] #[]:=hf;have e4:=run_yield (P:=P) (w:=w) (args:=vs.toArray) hL (by simp[vs,hps]);have e5:(#[]:Array Value)++c.args.map a.eval++#[]=vs.toArray:=by rw[hvs];simp
  rw[<-e4];simp[execOp,ho,resolve,hc,e0,Deferred.ofValue,invoke,hvs]
 refine⟨λ_ _=>trivial,?_⟩;show Oper.uponIn (FW none) dp P o a next Q ((execOp a.eval o).run P w);rw[hrun,Oper.uponIn_round];refine⟨by simp[FW,Fence.wide],?_⟩;have hlen:vs.length=c.args.size:=by simp[vs]
 let σ1:Names:=λb=>if b<64 then σ b else none
 have hfold:∀(ps:List (Nat×Value)) (T:Array Value),(ps.foldl (λtmps (p:Nat×Value)=>tmps.setIfInBounds p.1 p.2) T).size=T.size:=by
  intro ps;induction ps with
  |nil=>intro T;rfl
  |cons p ps ih=>intro T;rw[iG,ih];simp
 have hTsz:((r.params.zip vs.toArray).foldl (λtmps (t,a)=>tmps.setIfInBounds t a) r.tmps).size=ntA:=by
  rw[<-hsz,<-Array.foldl_toList];exact hfold _ _
 have hro:=TG (P:=P) (nt:=ntA) (dp:=dp-1) hm hrs hrp hA hB (T:=(r.params.zip vs.toArray).foldl (λtmps (t,a)=>tmps.setIfInBounds t a) r.tmps) (w:=w) (σ:=σ1) (I:=I) hib hTsz
  (hT σ1 I w vs (λb y h1 h2=>by simp only[σ1,bA h2];exact hkeep b y h1) hlen (λi y v h1 h2 h3 h4=>by
    simp only[fN,vs]at h1 h2;obtain⟨z,hz,rfl⟩:=iU.1 h1;rw[hz]at h2;simp at h2;subst h2;refine yB (σ:=σ) (g:=id) (p:=λb=>decide (b<64)) (λb hb x hx=>by simp only[σ1];rw[bA (by simpa using hb)];exact hx) (harg z (gI hz)) h4.symm h3))
  (RM.QD hp0 hrm) (λb hb=>by simp only[σ1];rw[aR (by omega)]) hL hI
 refine RoundIn.mono hro ?_;rintro e w' ⟨rfl,I',hp⟩;refine hnx _ σ I' w' ?_ (.d (.v _));exact cB.WQ (λp hp=>(hp1 p hp).2) (λp hp=>(hp0 p hp).1) (λp hp=>(hp1 p hp).1) hs hp
theorem CT {E:Ctx}{P:Program}{nt dp:Nat}{c d:Code}{x:X}{tm:List (Nat×AV)}{m:List (Nat×aN)}{nx:Nat}{gv:List Nat}(hm:P.follows .mixedOrders=true)(hP:E.P=P)(hn:E.nt=nt)
  (hc:CI none dp (λ_ _ _=>True) P nt (λe y=>e=.normal/\AI.Sub y tm m nx gv) [.code c] x) {Q:Exit->Act->World->Prop} {a:Act} {w:World} (hr:Rel E x.den a w)
  (h:∀a' w',Rel E (X.den ⟨tm,m.map (λp=>(p.1,some p.2)),nx⟩) a' w'->d.wpIn (FW none) dp P Q a' w'):(c.seq d).wpIn (FW none) dp P Q a w:=by
 refine wpIn_seq ?_;subst hP;have hw:=(pA hm hc E rfl hn (λ_ _ _ _ _ _=>trivial)).1 rfl _ w hr;refine oI hw (λe a1 w1 hq=>?_);obtain⟨y,hy,rfl,hsub⟩:lP E (λe y=>e=.normal/\AI.Sub y tm m nx gv) e a1 w1:=by
  cases e<;>simpa[bY]using hq
 exact h a1 w1 (Rel.sub hsub hy)
end Go.AI
section
namespace Go.AI
section
variable {bn : List Nat} {nm : Nat} {args : List AV} {mr m m' : List (Nat × aN)} {res : AV} {mem : Mem} {G : (Nat -> Prop) -> World -> Prop}
theorem J2 {dp:Nat}{P:Program}{o:Oper}{c:Call}{fo:Operand}(ho:o.op=.call c)(hc:c.callee=.value fo)(tm:Nat->AV)(mem:Mem)(nm:Nat){f:FuncId}{first captured:List AV}
  (hf:kV (ev tm fo)=some (f,first,captured)) (hen:Enters P f) (hct:gV G P f args mr m res m') (ha:cG.leL (first++c.args.toList.map (ev tm)++captured) (args.map (AV.aW (bT bn nm)))) (hn:oH bn args mr m res m')
  (hk:∀p∈mr++m,mem (bT bn nm p.1)=some (p.2.aW (bT bn nm))):
  oE none dp (JG G) P o tm ((eS bn nm mr m res m').mr mem) nm (eS bn nm mr m res m').res ((eS bn nm mr m res m').mw mem):=by
 intro a w σ I hG h1 h2 h3 h4 next Q hnx;refine CR (by simp[pM,ho]) ?_;obtain⟨vs,hrun,hcall⟩:=N6 ho hc hf hen hct ha hn hk hG h1 h2 h3 h4;simp only[Oper.wp,hrun];refine hcall.mono λe w' ⟨v,σ',I',he,hp,hv⟩=>?_;subst he;exact hnx v σ' I' w' hp hv
end
theorem CI.Dp {G:(Nat->Prop)->World->Prop}{dp:Nat}{P:Program}{nt:Nat}{R:Exit->X->Prop}{ops:Array Oper}{o:Oper}{rest:List Oper}{i:Nat}{ft:List (List Nat×List Nat)}{draw:Bool}{k:List It}{x:X}{c:Call}{fo:Operand}{f:FuncId}{first captured:List AV}{args:List AV}{mr m m':List (Nat×aN)}{res:AV}(bn:List Nat)
  (hct:gV G P f args mr m res m') (hen:Enters P f) (ho:o.op=.call c) (hc:c.callee=.value fo) (hdst:fR nt o.dst=true) (hg:o.guard=none\/∃g wa,o.guard=some (g,wa)/\iM ops g (bH x.tm)=some wa)
  (hf:kV (ev (bH x.tm) fo)=some (f,first,captured)) (ha:cG.leL (first++c.args.toList.map (ev (bH x.tm))++captured) (args.map (AV.aW (bT bn (x.nx+64*i))))) (hn:oH bn args mr m res m')
  (hk:∀p∈mr++m,bG x.mm (bT bn (x.nx+64*i) p.1)=some (p.2.aW (bT bn (x.nx+64*i))))
  (h:CI none dp (JG G) P nt R (.ops ops rest (i+1) (ft++[(eS bn (x.nx+64*i) mr m res m').jC]) draw::k) (x.app o.dst (eS bn (x.nx+64*i) mr m res m'))):CI none dp (JG G) P nt R (.ops ops (o::rest) i ft draw::k) x:=
 .op _ hdst hg (J2 ho hc _ _ _ hf hen hct ha hn hk) h
section
variable {ro : Option Nat} {dp : Nat} {J : Names -> (Nat -> Prop) -> World -> Prop}
end
end Go.AI
open Go.RowKit
namespace Go.AI
theorem gV.KA {G:(Nat->Prop)->World->Prop}{P:Program}{f:FuncId}{args:List AV}{mr:List (Nat×aN)}{r:Value}
  (h:∀(σ:Names) (I:Nat->Prop) (w:World) (vs:List Value),G I w->(∀n,I n->n<w.heap.size)->vs.length=args.length->(∀(i:Nat) c x,args[i]? =some c->vs[i]? =some x->RV σ I w c x)->RM σ I w (aP mr)->
    Calls P f vs.toArray w λe w'=>e=.returned r/\Below w.heap.size w w'/\w.drawn<=w'.drawn):gV G P f args mr [] (.d (.v r)) []:=by
 intro σ I w vs hG hI hl ha hm hn;rw[yL]at hm⊢;refine(h σ I w vs hG hI hl ha hm).mono λe w' ⟨h1,hb,hd⟩=>⟨r,σ,I,h1,?_,.d (.v r)⟩;refine⟨hb.os,hb.tape,⟨hb.output,hd⟩,hb.size,λ_ _ h=>h,λ_ h h'=>absurd h h',λ_ h=>h,λn hn=>pD (hI n hn) hb.size,λ_ h=>.inl h,λn hn _=>hb.block n hn,?_,λb k h=>.inl (by rw[h];simp),λn ho=>.inl ho⟩;refine⟨λb k hb'=>?_,hm.apart⟩;obtain⟨x,h1,h2,h3⟩:=hm.aS b k hb';exact⟨x,h1,h2.mono (λn hn=>hb.block n (hI n hn)) (λ_ h=>h) (λ_ _ h=>h) (λn hn=>hb.block n (h3 n hn).1),λn hn=>⟨pD (h3 n hn).1 hb.size,(h3 n hn).2⟩⟩
end Go.AI
namespace Go.AI
theorem oE.xD {dp:Nat}{G:(Nat->Prop)->World->Prop}(hGk:vQ G){P:Program}{o:Oper}{tm:Nat->AV}{mem:Mem}{nm:Nat}(gv:List Nat){e:aG}(hgv:∀b,b∈gv->(mem b).isSome=true)
  (h:oE none dp (JG G) P o (λt=>cX (λb=>!gv.contains b) mem 8 (tm t)) (e.mr (fK gv mem)) nm e.res (e.mw (fK gv mem))):
  oE none dp (JG G) P o tm ((aG.mk e.res e.rd (e.wr++gv.map λb=>(b,none))).mr mem) nm e.res ((aG.mk e.res e.rd (e.wr++gv.map λb=>(b,none))).mw mem):=by
 intro a w σ I hG h1 h2 h3 h4 next Q hn
 let kp:Nat->Bool:=λb=>!gv.contains b
 let m2:Mem:=(aG.mk e.res e.rd (e.wr++gv.map λb=>(b,none))).mr mem
 have hm2:∀b,kp b=false->mem b=m2 b:=by
  intro b hb;have hc:gv.contains b=true:=by grind
  have hw:(wrote (e.wr++gv.map λb=>(b,none)) b).isSome=true:=by
   rw[uL,yR,hc];cases wrote e.wr b<;>rfl
  simp only[m2,aG.mr,hw,true_or,dY]
 have sub:∀b k,e.mr (fK gv mem) b=some k->m2 b=some k/\gv.contains b=false:=by
  intro b k hk;simp only[aG.mr]at hk;split at hk
  ·rename_i hc;simp only[fK]at hk;split at hk
   ·cases hk
   ·rename_i hg;refine⟨?_,by simpa using hg⟩;simp only[m2,aG.mr];rw[bA ?_]
    ·exact hk
    ·rcases hc with hc|hc
     ·left;rw[uL];obtain⟨q,hq⟩:=oJ.1 hc;rw[hq];simp
     ·exact .inr hc
  ·cases hk
 have hib:∀n,given σ I m2 kp n->n<w.heap.size:=by
  intro n hn;rcases hn with hn|⟨b,_,c,k,y,hc,hk,hy,e⟩
  ·exact h1 n hn
  ·obtain⟨y',hy',_,hh⟩:=h3.aS c k hk;rw[hy]at hy';cases hy';exact(hh n e).1
 have own2:∀n,cR σ (e.mr (fK gv mem)) n->cR σ m2 n:=by
  rintro n ⟨b,k,x,hb,hx,e⟩;exact⟨b,k,x,(sub b k hb).1,hx,e⟩
 have hrm:RM σ (given σ I m2 kp) w (e.mr (fK gv mem)):=by
  refine⟨λb k hb=>?_,λb b' k k' x x' n hb hb' hx hx' q q'=>h3.apart b b' k k' x x' n (sub b k hb).1 (sub b' k' hb').1 hx hx' q q'⟩;obtain⟨hb2,hbg⟩:=sub b k hb;obtain⟨x,hx,hrb,hh⟩:=h3.aS b k hb2;refine⟨x,hx,hrb.mono (λ_ _=>rfl) (λn h=>.inl h) (λ_ _ h=>h) (λ_ _=>rfl),λn hn=>⟨(hh n hn).1,?_⟩⟩;rintro(hI|⟨c,hc,d,k',y,hd,hk',hy,q⟩)
  ·exact(hh n hn).2 hI
  ·cases hd;have:=h3.apart b c k k' x y n hb2 hk' hx hy hn q;subst this;simp only[kp]at hc;rw[hbg]at hc;cases hc
 refine h a w σ (given σ I m2 kp) (hGk I _ w w hG (λ_ _=>rfl) (λn hn=>.inl hn)) hib (λt ht=>?_) hrm h4 next Q (λv σ' I' w' hp hv=>hn v σ' I' w' ?_ hv)
 ·have:=wN (kp:=kp) h3 8 (h2 t ht)
  rwa[<-JE (mm:=mem) (mm':=m2) hm2]at this
 ·have hmw:∀c q,(aG.mk e.res e.rd (e.wr++gv.map λb=>(b,none))).mw mem c=some q->e.mw (fK gv mem) c=some q:=by
   intro c q hq;simp only[aG.mw,uL,yR]at hq;simp only[aG.mw];cases hw:wrote e.wr c with
   |some o=>rw[hw]at hq;exact hq
   |none=>
    rw[hw]at hq;simp only at hq⊢;cases hc:gv.contains c with
    |true=>rw[hc]at hq;simp at hq
    |false=>
     rw[hc]at hq;simp only[fK,hc];simpa using hq
  have ownsMw:∀n,cR σ' ((aG.mk e.res e.rd (e.wr++gv.map λb=>(b,none))).mw mem) n->cR σ' (e.mw (fK gv mem)) n:=by
   rintro n ⟨b,k,x,hb,hx,q⟩;exact⟨b,k,x,hmw b k hb,hx,q⟩
  refine⟨hp.os,hp.tape,hp.output,hp.size,hp.names,hp.new,λn hn=>hp.pV n (.inl hn),hp.ib,λn hn=>?_,λn hn hno=>hp.frame n hn (λho=>hno (own2 n ho)),⟨λb k hb=>hp.mem.aS b k (hmw b k hb),λb b' k k' x x' n hb hb'=>hp.mem.apart b b' k k' x x' n (hmw b k hb) (hmw b' k' hb')⟩,λc q hq=>?_,λn ho=>?_⟩
  ·rcases hp.fB n hn with(g|⟨b,_,c,k,y,hc,hk,hy,q⟩)|g|g
   ·exact .inl g
   ·exact .inr (.inr ⟨c,k,y,hk,hy,q⟩)
   ·exact .inr (.inl g)
   ·exact .inr (.inr (own2 n g))
  ·rcases hp.p8 c q (hmw c q hq)with g|g
   ·left;obtain⟨k,hk⟩:=Option.ne_none_iff_exists'.1 g;show m2 c≠none;rw[(sub c k hk).1];simp
   ·exact .inr g
  ·rcases hp.eM n (ownsMw n ho)with g|g
   ·exact .inl (own2 n g)
   ·exact .inr g
theorem CI.Dn {G:(Nat->Prop)->World->Prop}(hGk:vQ G){dp:Nat}{P:Program}{nt:Nat}{R:Exit->X->Prop}{ops:Array Oper}{o:Oper}{rest:List Oper}{i:Nat}{ft:List (List Nat×List Nat)}{draw:Bool}{k:List It}{x:X}{c:Call}{fo:Operand}{f:FuncId}{first captured:List AV}{args:List AV}{mr m m':List (Nat×aN)}{res:AV}(gv bn:List Nat)
  (hct:gV G P f args mr m res m') (hen:Enters P f) (ho:o.op=.call c) (hc:c.callee=.value fo) (hdst:fR nt o.dst=true) (hg:o.guard=none\/∃g wa,o.guard=some (g,wa)/\iM ops g (bH x.tm)=some wa)
  (hf:kV (ev (nJ gv x) fo)=some (f,first,captured)) (ha:cG.leL (first++c.args.toList.map (ev (nJ gv x))++captured) (args.map (AV.aW (bT bn (x.nx+64*i))))) (hn:oH bn args mr m res m')
  (hk:∀p∈mr++m,fK gv (bG x.mm) (bT bn (x.nx+64*i) p.1)=some (p.2.aW (bT bn (x.nx+64*i)))) (hgv:∀b,b∈gv->(bG x.mm b).isSome=true)
  (h:CI none dp (JG G) P nt R (.ops ops rest (i+1) (ft++[(oW (eS bn (x.nx+64*i) mr m res m') gv).jC]) draw::k) (x.app o.dst (oW (eS bn (x.nx+64*i) mr m res m') gv))):CI none dp (JG G) P nt R (.ops ops (o::rest) i ft draw::k) x:=
 .op _ hdst hg (oE.xD hGk gv hgv (J2 ho hc _ _ _ hf hen hct ha hn hk)) h
end Go.AI
namespace Go.AI
theorem CI.VH {ro:Option Nat}{dp:Nat}{J:Names->(Nat->Prop)->World->Prop}{P:Program}{nt:Nat}{R:Exit->X->Prop}{ops:Array Oper}{o:Oper}{rest:List Oper}{i:Nat}{ft:List (List Nat×List Nat)}{draw:Bool}{k:List It}{x:X}(gv:List Nat)(st n:Nat)(hk:clean k=true)(hdst:fR nt o.dst=true)(hg:o.guard=none\/∃g wa,o.guard=some (g,wa)/\iM ops g (bH x.tm)=some wa)
  (hgv:∀b,b∈gv->(bG x.mm b).isSome=true)
  (h:match nN P o (nJ gv x) (fK gv (bG x.mm)) (x.nx+64*i)with
    |some (sc,e)=>sc/\AI.aX ro dp J P nt R st n (.ops ops rest (i+1) (ft++[(oW e gv).jC]) draw::k) (x.app o.dst (oW e gv))
    |none=>False):CI ro dp J P nt R (.ops ops (o::rest) i ft draw::k) x:=by
 split at h
 ·rename_i sc e hr;exact .op _ hdst hg (aO.kL (O2 hr) (aO.xD gv hgv (O1 hr h.1))) (.nC st n hk h.2)
 ·exact h.elim
end Go.AI
end
namespace Go.AI
theorem bP.jG {P:Program}{f:FuncId}{args:List AV}{first:List D}{res:AV}(h:Ct P f (first.map .d++args) [] [] res [])(he:Enters P f)(h1:cY.gS (λb=>decide (b<0)) (first.map .d++args)=true)(h2:cY (kE 0) res=true):bP P (.d (.fn (.func f) first [])) args res:=
 ⟨f,first.map .d,[],rfl,he,by simpa using h,by simpa using h1,h2⟩
theorem QO {σ:Names}{I:Nat->Prop}{w:World}{sz i l:Nat}{es:List (List D)}{T:TypeId}{y v:Value}(hb0:RB σ I w (.grow sz es T) y)(hs:x9 sz y i l v)(hi:i=0)(hl:l<=es.length):
  (∀σ':Names,RB σ' I w (.grow sz (es.take l) T) v)/\v.oneCell'=true/\∀n,hb v=some n->hb y=some n:=by
 subst hi;cases hs with
 |nil=>exact⟨λ_=>by simpa using RB.none,rfl,λn h=>h⟩
 |none a=>exact⟨λ_=>by simpa using RB.emp a,rfl,λn h=>by simp[hb]at h⟩
 | @some n len cap _ _ c hc hlc=>
   cases hb0 with
   |emp=>
    have:c=0:=by omega
    subst this;have:l=0:=by omega
    subst this;exact⟨λ_=>by simpa using RB.emp _,rfl,λn h=>by simp[hb]at h⟩
   | @grow _ _ _ _ _ arr hw h1 hcap hmax hsz hr=>
     refine⟨λσ'=>?_,rfl,λm h=>?_⟩
     ·have e:(es.take l).length=l:=by rw[sN];omega
      have:=RB.grow (σ:=σ') (I:=I) (w:=w) (sz:=sz) (es:=es.take l) (T:=T) (n:=n) (cap:=c) (arr:=arr) hw (cD (mC _ (by omega)) h1) (by rw[e];exact hlc) (by omega) (λe he=>hsz e (rL he))
       (λi e j c h1 h2=>hr i e j c (by rw[List.getElem?_take]at h1;split at h1<;>simp_all) h2)
      rw[e]at this;simpa using this
     ·cases c with
      |zero=>simp[hb]at h
      |succ c=>
       cases cap with
       |zero=>omega
       |succ cap=>simpa[hb]using h
theorem Ct.G0 {P:Program}{f:FuncId}{args:List AV}{k0:aN}{sz i:Nat}{es:List (List D)}{T:TypeId}{r:AV}(hr:r=.own 0/\i=es.length\/r=.sl 0 sz 0 i)(hi:i<=es.length)
  (h:Ct P f args [] [(0,k0)] r [(0,.grow sz es T)]):Ct P f args [] [(0,k0)] (.own 64) [(64,.grow sz (es.take i) T)]:=by
 intro σ I w vs hI hl ha hm h64;refine(h σ I w vs hI hl ha hm h64).mono ?_;rintro e w' ⟨v,σ',I',rfl,hp,hv⟩;obtain⟨y,hy,hb0,hbn⟩:=hp.mem.aS 0 _ rfl;have key:(∀σ':Names,RB σ' I' w' (.grow sz (es.take i) T) v)/\v.oneCell'=true/\∀n,hb v=some n->hb y=some n:=by
  rcases hr with⟨rfl,rfl⟩|rfl
  ·cases hv with
   |own h1 h2=>
    rw[hy]at h1;cases h1;refine⟨λσ''=>?_,h2,λn h=>h⟩;rw[bK];cases hb0 with
    |none=>exact .none
    |emp a=>exact .emp a
    |grow hw a1 a2 a3 a4 a5=>exact .grow hw a1 a2 a3 a4 a5
  ·cases hv with
   |sl h1 h2=>
    rw[hy]at h1;cases h1;exact QO hb0 h2 rfl hi
 obtain⟨k1,k2,k3⟩:=key
 let σ'':Names:=λb=>if b=64 then some v else if b<64 then σ' b else none
 have e64:σ'' 64=some v:=rfl;refine⟨v,σ'',I',rfl,⟨hp.os,hp.tape,hp.output,hp.size,?_,?_,hp.pV,hp.ib,hp.fB,hp.frame,⟨?_,?_⟩,?_,?_⟩,.own e64 k2⟩
 ·intro b x hb;have:b<64:=by
   rcases pC b 64 with h|h
   ·exact h
   ·rw[h64 b h]at hb;cases hb
  have hne:b≠64:=by omega
  simp only[σ'',aR hne,bA this];exact hp.names b x hb
 ·intro b hb hn;by_cases h:b=64
  ·subst h;exact⟨aY _,by omega⟩
  ·by_cases h':b<64
   ·simp only[σ'',aR h,bA h']at hn;exact hp.new b hb hn
   ·simp only[σ'',aR h,aR h',ne_eq,not_true_eq_false]at hn
 ·intro b k hk;by_cases h:b=64
  ·subst h;simp at hk;subst hk;exact⟨v,e64,k1 _,λn hn=>hbn n (k3 n hn)⟩
  ·simp at hk;exfalso;omega
 ·intro b b' k k' x x' n h1 h2 h3 h4 h5 h6;have hb1:b=64:=by
   by_cases h:b=64
   ·exact h
   ·simp at h1;exfalso;omega
  have hb2:b'=64:=by
   by_cases h:b'=64
   ·exact h
   ·simp at h2;exfalso;omega
  rw[hb1,hb2]
 ·intro b k hk;by_cases h:b=64
  ·exact Or.inr ⟨by omega,by omega⟩
  ·simp at hk;exfalso;omega
 ·rintro n ⟨b,k,x,h1,h2,h3⟩;have hb1:b=64:=by
   by_cases h:b=64
   ·exact h
   ·simp at h1;exfalso;omega
  subst hb1;rw[e64]at h2;cases h2;exact hp.eM n ⟨0,_,y,rfl,hy,k3 n h3⟩
theorem CI.SL {dp:Nat}{J:Names->(Nat->Prop)->World->Prop}{P:Program}{nt:Nat}{R:Exit->X->Prop}(hm:P.follows .mixedOrders=true)(hp:Plain R){c d:Code}{k:List It}{x:X}(hk:clean k=true)(h:CI none dp J P nt R (.code c:: .code d::k) x):CI none dp J P nt R (.code (.seq c (.scope d))::k) x:=by
 refine CI.Ck hk λE hP hn hJ a w hr=>?_;have h1:=CI.wp hm h (by simpa[clean,eO]using hk) E hP hn hJ a w hr;refine wp_seq (wp_mono h1 (λe a w h=>?_));cases e<;>simp only[bY,Exit.then]at h⊢<;>try exact h
 refine wp_scope_straight (wp_mono ((wpIn_wide (n:=dp)).1 h) (λe a w h=>?_));cases e<;>simp only[Exit.noGoto]<;>first|exact h|exact absurd h (B7 (.inl ⟨_,rfl⟩) (hp.1 _) k)
theorem nT {b:Bool}:((!b)=true)=(b=false):=by cases b<;>simp
theorem nF {b:Bool}:((!b)=false)=(b=true):=by cases b<;>simp
theorem dT {p:Prop} [Decidable p]:(decide p=true)=p:=dO
theorem dF {p:Prop} [Decidable p]:(decide p=false)=¬p:=propext decide_eq_false_iff_not
theorem bB {α:Type}{l:List α}{k:Nat}(h:k<l.length)(hw:(k:Int)+1<=9223372036854775807:=by omega):∃x,l[k]=x/\l[k]? =some x/\x∈l/\l.take (k+1)=l.take k++[x]/\l.drop k=x::l.drop (k+1)/\IntKind.wrap .i64 ((k:Int)+1)=k+1:=
 ⟨_,rfl,bL h,mD h,by rw[eW,bL h];rfl,qF h,wrap_i64 (by omega) hw⟩
theorem gS {α:Type}{l:List α}{k:Nat}(h:k<l.length):∃x,l[k]=x/\l[k]? =some x/\x∈l/\l.take (k+1)=l.take k++[x]/\l.drop k=x::l.drop (k+1):=
 ⟨_,rfl,bL h,mD h,by rw[eW,bL h];rfl,qF h⟩
theorem wr {k:Nat}(h:(k:Int)+1<=9223372036854775807):IntKind.wrap .i64 ((k:Int)+1)=k+1:=wrap_i64 (by omega) h
abbrev Up {α:Type}(l:List α):Type:={k:Nat//k<=l.length}
section
variable {P : Program} {nt : Nat} {R : Exit -> X -> Prop} {ops : Array Oper} {o : Oper} {rest : List Oper} {i : Nat} {ft : List (List Nat × List Nat)} {d : Bool} {k : List It} {x : X} {c : Call} {fo : Operand} {f : FuncId} {fs cap args : List AV} {mr m m' : List (Nat × aN)} {res kf : AV} {fn : Func} {cd : Code}
theorem Ct.BS (hf:P.funcs[f]? =some fn)(hm:P.follows .mixedOrders=true)(st n:Nat)(h:AI.aX none 0 J0 P fn.ntmps (oO P fn (mr++m) res (mr++m')) st n [.code cd] ⟨mP 0 args,(mr++m).map (λp=>(p.1,some p.2)),64⟩)(hb:fn.body=some cd:=by rfl)(hn:args.length<=fn.ntmps:=by simp):Ct P f args mr m res m':=
 .rZ hf hb hm hn (.run st n rfl h)
theorem Ct.B (hf:P.funcs[f]? =some fn)(h:AI.aX none 0 J0 P fn.ntmps (oO P fn (mr++m) res (mr++m')) 99 400 [.code cd] ⟨mP 0 args,(mr++m).map (λp=>(p.1,some p.2)),64⟩)(hm:P.follows .mixedOrders=true:=by decide+kernel)(hb:fn.body=some cd:=by rfl)(hn:args.length<=fn.ntmps:=by simp):Ct P f args mr m res m':=
 .rZ hf hb hm hn (.run 99 400 rfl h)
theorem gV.B {G:(Nat->Prop)->World->Prop}(hG:vQ G)(hf:P.funcs[f]? =some fn)(h:AI.aX none 0 (JG G) P fn.ntmps (oO P fn (mr++m) res (mr++m')) 99 400 [.code cd] ⟨mP 0 args,(mr++m).map (λp=>(p.1,some p.2)),64⟩)(hm:P.follows .mixedOrders=true:=by decide+kernel)(hb:fn.body=some cd:=by rfl)(hn:args.length<=fn.ntmps:=by simp):gV G P f args mr m res m':=
 .rZ hG hf hb hm hn (.run 99 400 rfl h)
theorem aJ.U {ro:Option Nat}{dp:Nat}{J:Names->(Nat->Prop)->World->Prop}(hm:P.follows .mixedOrders=true){α:Type}(l:List α)(tm:Up l->List (Nat×AV))(mm:Up l->List (Nat×aN))(nx:Nat)(gv:List Nat)(h0:Sub x (tm ⟨0,jJ _⟩) (mm ⟨0,jJ _⟩) nx gv)
  (step:∀i (B:X->Prop),(∀x j gv,Sub x (tm j) (mm j) nx gv->l.length-j.1<l.length-i.1->B x)->CI ro dp J P nt R (.code cd:: .stop B::k) ⟨tm i,(mm i).map (λp=>(p.1,some p.2)),nx⟩) (hk:clean k=true:=by rfl):aJ ro dp J P nt R cd k x:=
 .inv hm hk tm mm nx (λi=>l.length-i.1) _ gv h0 step
theorem aJ.V {ro:Option Nat}{dp:Nat}{J:Names->(Nat->Prop)->World->Prop}{α:Type}(l:List α)(tm:Up l->List (Nat×AV))(mm:Up l->List (Nat×aN))(nx:Nat)
  (step:∀i (h:i<=l.length) (B:X->Prop),(∀{x},(h:i<l.length)->Sub x (tm ⟨i+1,h⟩) (mm ⟨i+1,h⟩) nx []->B x)->AI.aX ro dp J P nt R 99 400 (.code cd:: .stop B::k) ⟨tm ⟨i,h⟩,(mm ⟨i,h⟩).map (λp=>(p.1,some p.2)),nx⟩)
  (h0:Sub x (tm ⟨0,jJ _⟩) (mm ⟨0,jJ _⟩) nx []:=by constructor<;>simp) (hm:P.follows .mixedOrders=true:=by decide+kernel) (hk:clean k=true:=by rfl):aJ ro dp J P nt R cd k x:=
 .inv hm hk tm mm nx (λi=>l.length-i.1) _ [] h0 λi B hB=>.run 99 400 (by exact hk) (step i.1 i.2 B λh hs=>hB _ ⟨i.1+1,h⟩ [] hs (by simp only;omega))
theorem CI.n {ro:Option Nat}{dp:Nat}{J:Names->(Nat->Prop)->World->Prop}(h:AI.aX ro dp J P nt R 99 400 k x)(hc:clean k=true:=by rfl):CI ro dp J P nt R k x:=.run 99 400 hc h
theorem aJ.un {dp:Nat}{J:Names->(Nat->Prop)->World->Prop}(h:AI.aX none dp J P nt R 99 400 (.code cd:: .code (.loop cd)::k) x)(hm:P.follows .mixedOrders=true:=by decide+kernel)(hp:Plain R:=by exact Plain.oO _ _ _ _ _)(hk:clean k=true:=by rfl):aJ none dp J P nt R cd k x:=
 .P1 hm hp hk (.run 99 400 (by exact hk) h)
def MD (P:Program)(f:FuncId):Bool:=match P.funcs[f]? with
 |some fn=>!(fn.name== "runtime.NumGoroutine")&& !fn.body.isNone
 |none=>false
theorem Enters.of {f:FuncId}(h:MD P f=true):Enters P f:=by
 intro args w;unfold MD at h;split at h
 ·rename_i fn e;simp at h;have h2:¬fn.body=none:=λq=>by rw[q]at h;exact absurd h.2 (by simp)
  simp[callFunc,e,h.1,h2]
 ·cases h
section
variable {ro : Option Nat} {dp : Nat} {J : Names -> (Nat -> Prop) -> World -> Prop}
theorem CI.pS (hct:Ct P f args [] [] res [])(hen:Enters P f)(st:Nat)(h:AI.aX ro dp J P nt R st 400 (.ops ops rest (i+1) (ft++[([],[])]) d::k) ⟨qQ o.dst (res.aW (bT [] (x.nx+64*i))) x.tm,x.mm,x.nx⟩)
  (ho:o.op=.call c:=by rfl) (hc:c.callee=.value fo:=by rfl) (hd:fR nt o.dst=true:=by rfl) (hg:o.guard=none\/∃g wa,o.guard=some (g,wa)/\iM ops g (bH x.tm)=some wa:=by first|exact .inl rfl|exact .inr ⟨_,_,rfl,by simp⟩|exact .inr ⟨_,_,rfl,by simp[*]⟩)
  (hf:kV (ev (bH x.tm) fo)=some (f,fs,cap):=by rfl) (ha:cG.leL (fs++c.args.toList.map (ev (bH x.tm))++cap) (args.map (AV.aW (bT [] (x.nx+64*i)))):=by simp) (hk:clean k=true:=by rfl)
  (h1:cY.gS (λb=>decide (b<0)) args=true:=by rfl) (h2:cY (kE 0) res=true:=by rfl):CI ro dp J P nt R (.ops ops (o::rest) i ft d::k) x:=
 .F0 hct hen ho hc hd hg hf ha h1 h2 (.nC st 400 hk h)
theorem CI.p (hct:Ct P f args [] [] res [])(h:AI.aX ro dp J P nt R 99 400 (.ops ops rest (i+1) (ft++[([],[])]) d::k) ⟨qQ o.dst (res.aW (bT [] (x.nx+64*i))) x.tm,x.mm,x.nx⟩)
  (hen:Enters P f:=by exact Enters.of (by decide+kernel)) (ho:o.op=.call c:=by rfl) (hc:c.callee=.value fo:=by rfl) (hd:fR nt o.dst=true:=by rfl) (hg:o.guard=none\/∃g wa,o.guard=some (g,wa)/\iM ops g (bH x.tm)=some wa:=by first|exact .inl rfl|exact .inr ⟨_,_,rfl,by simp⟩|exact .inr ⟨_,_,rfl,by simp[*]⟩)
  (hf:kV (ev (bH x.tm) fo)=some (f,fs,cap):=by rfl) (ha:cG.leL (fs++c.args.toList.map (ev (bH x.tm))++cap) (args.map (AV.aW (bT [] (x.nx+64*i)))):=by simp) (hk:clean k=true:=by rfl)
  (h1:cY.gS (λb=>decide (b<0)) args=true:=by rfl) (h2:cY (kE 0) res=true:=by rfl):CI ro dp J P nt R (.ops ops (o::rest) i ft d::k) x:=
 .F0 hct hen ho hc hd hg hf ha h1 h2 (.nC 99 400 hk h)
theorem CI.cc (bn:List Nat)(hct:Ct P f args mr m res m')(h:AI.aX ro dp J P nt R 99 400 (.ops ops rest (i+1) (ft++[(eS bn (x.nx+64*i) mr m res m').jC]) d::k) (x.app o.dst (eS bn (x.nx+64*i) mr m res m')))
  (hen:Enters P f:=by exact Enters.of (by decide+kernel)) (ho:o.op=.call c:=by rfl) (hc:c.callee=.value fo:=by rfl) (hd:fR nt o.dst=true:=by rfl) (hg:o.guard=none\/∃g wa,o.guard=some (g,wa)/\iM ops g (bH x.tm)=some wa:=by first|exact .inl rfl|exact .inr ⟨_,_,rfl,by simp⟩|exact .inr ⟨_,_,rfl,by simp[*]⟩)
  (hf:kV (ev (bH x.tm) fo)=some (f,fs,cap):=by rfl) (ha:cG.leL (fs++c.args.toList.map (ev (bH x.tm))++cap) (args.map (AV.aW (bT bn (x.nx+64*i)))):=by simp) (hn:oH bn args mr m res m':=by constructor<;>simp[kE])
  (hk:∀p∈mr++m,bG x.mm (bT bn (x.nx+64*i) p.1)=some (p.2.aW (bT bn (x.nx+64*i))):=by simp) (hl:clean k=true:=by rfl):CI ro dp J P nt R (.ops ops (o::rest) i ft d::k) x:=
 .N7 bn hct hen ho hc hd hg hf ha hn hk (.nC 99 400 hl h)
theorem CI.g (gv bn:List Nat)(hct:Ct P f args mr m res m')(h:AI.aX ro dp J P nt R 99 400 (.ops ops rest (i+1) (ft++[(oW (eS bn (x.nx+64*i) mr m res m') gv).jC]) d::k) (x.app o.dst (oW (eS bn (x.nx+64*i) mr m res m') gv)))
  (hen:Enters P f:=by exact Enters.of (by decide+kernel)) (ho:o.op=.call c:=by rfl) (hc:c.callee=.value fo:=by rfl) (hd:fR nt o.dst=true:=by rfl) (hg:o.guard=none\/∃g wa,o.guard=some (g,wa)/\iM ops g (bH x.tm)=some wa:=by first|exact .inl rfl|exact .inr ⟨_,_,rfl,by simp⟩|exact .inr ⟨_,_,rfl,by simp[*]⟩)
  (hf:kV (ev (nJ gv x) fo)=some (f,fs,cap):=by rfl) (ha:cG.leL (fs++c.args.toList.map (ev (nJ gv x))++cap) (args.map (AV.aW (bT bn (x.nx+64*i)))):=by simp[nJ]) (hn:oH bn args mr m res m':=by constructor<;>simp[kE])
  (hk:∀p∈mr++m,fK gv (bG x.mm) (bT bn (x.nx+64*i) p.1)=some (p.2.aW (bT bn (x.nx+64*i))):=by simp[fK]) (hv:∀b,b∈gv->(bG x.mm b).isSome=true:=by simp) (hl:clean k=true:=by rfl):CI ro dp J P nt R (.ops ops (o::rest) i ft d::k) x:=
 .Dq gv bn hct hen ho hc hd hg hf ha hn hk hv (.nC 99 400 hl h)
theorem CI.ff (h0:bP P kf args res)(ho:o.op=.call c)(hc:c.callee=.value fo)(hf:ev (bH x.tm) fo=kf)(h:AI.aX ro dp J P nt R 99 400 (.ops ops rest (i+1) (ft++[([],[])]) d::k) ⟨qQ o.dst (res.aW (bT [] (x.nx+64*i))) x.tm,x.mm,x.nx⟩)
  (hd:fR nt o.dst=true:=by rfl) (hg:o.guard=none\/∃g wa,o.guard=some (g,wa)/\iM ops g (bH x.tm)=some wa:=by first|exact .inl rfl|exact .inr ⟨_,_,rfl,by simp⟩|exact .inr ⟨_,_,rfl,by simp[*]⟩)
  (ha:cG.leL (c.args.toList.map (ev (bH x.tm))) args:=by simp) (hk:clean k=true:=by rfl):CI ro dp J P nt R (.ops ops (o::rest) i ft d::k) x:=
 .Dr h0 ho hc hd hg hf ha (.nC 99 400 hk h)
theorem CI.s {tm:List (Nat×AV)}{mm:List (Nat×aN)}{nx:Nat}(g:List (Nat×Nat))(gv:List Nat)(hs:vN x tm mm nx g gv)(h:CI ro dp J P nt R k ⟨tm,mm.map (λp=>(p.1,some p.2)),nx⟩)(hk:clean k=true:=by rfl):CI ro dp J P nt R k x:=.sub g gv hk hs h
theorem aE {st n:Nat}{t:Bool}{a b:Code}(h1:t=true->AI.aX ro dp J P nt R st n (.br (.d (.v (.bool true))) a b::k) x)(h2:t=false->AI.aX ro dp J P nt R st n (.br (.d (.v (.bool false))) a b::k) x):AI.aX ro dp J P nt R st n (.br (.d (.v (.bool t))) a b::k) x:=TA h1 h2
theorem aM {st n:Nat}{t wa:Bool}(h1:t=true->AI.aX ro dp J P nt R st n (.gd (.d (.v (.bool true))) wa ops o rest i ft d::k) x)(h2:t=false->AI.aX ro dp J P nt R st n (.gd (.d (.v (.bool false))) wa ops o rest i ft d::k) x):AI.aX ro dp J P nt R st n (.gd (.d (.v (.bool t))) wa ops o rest i ft d::k) x:=S9 h1 h2
variable {G : (Nat -> Prop) -> World -> Prop}
theorem CI.j (bn:List Nat)(hct:gV G P f args mr m res m')(h:AI.aX none dp (JG G) P nt R 99 400 (.ops ops rest (i+1) (ft++[(eS bn (x.nx+64*i) mr m res m').jC]) d::k) (x.app o.dst (eS bn (x.nx+64*i) mr m res m')))
  (hen:Enters P f:=by exact Enters.of (by decide+kernel)) (ho:o.op=.call c:=by rfl) (hc:c.callee=.value fo:=by rfl) (hd:fR nt o.dst=true:=by rfl) (hg:o.guard=none\/∃g wa,o.guard=some (g,wa)/\iM ops g (bH x.tm)=some wa:=by first|exact .inl rfl|exact .inr ⟨_,_,rfl,by simp⟩|exact .inr ⟨_,_,rfl,by simp[*]⟩)
  (hf:kV (ev (bH x.tm) fo)=some (f,fs,cap):=by rfl) (ha:cG.leL (fs++c.args.toList.map (ev (bH x.tm))++cap) (args.map (AV.aW (bT bn (x.nx+64*i)))):=by simp) (hn:oH bn args mr m res m':=by constructor<;>simp[kE])
  (hk:∀p∈mr++m,bG x.mm (bT bn (x.nx+64*i) p.1)=some (p.2.aW (bT bn (x.nx+64*i))):=by simp) (hl:clean k=true:=by rfl):CI none dp (JG G) P nt R (.ops ops (o::rest) i ft d::k) x:=
 .Dp bn hct hen ho hc hd hg hf ha hn hk (.nC 99 400 hl h)
theorem CI.jg (hG:vQ G)(gv bn:List Nat)(hct:gV G P f args mr m res m')(h:AI.aX none dp (JG G) P nt R 99 400 (.ops ops rest (i+1) (ft++[(oW (eS bn (x.nx+64*i) mr m res m') gv).jC]) d::k) (x.app o.dst (oW (eS bn (x.nx+64*i) mr m res m') gv)))
  (hen:Enters P f:=by exact Enters.of (by decide+kernel)) (ho:o.op=.call c:=by rfl) (hc:c.callee=.value fo:=by rfl) (hd:fR nt o.dst=true:=by rfl) (hg:o.guard=none\/∃g wa,o.guard=some (g,wa)/\iM ops g (bH x.tm)=some wa:=by first|exact .inl rfl|exact .inr ⟨_,_,rfl,by simp⟩|exact .inr ⟨_,_,rfl,by simp[*]⟩)
  (hf:kV (ev (nJ gv x) fo)=some (f,fs,cap):=by rfl) (ha:cG.leL (fs++c.args.toList.map (ev (nJ gv x))++cap) (args.map (AV.aW (bT bn (x.nx+64*i)))):=by simp[nJ]) (hn:oH bn args mr m res m':=by constructor<;>simp[kE])
  (hk:∀p∈mr++m,fK gv (bG x.mm) (bT bn (x.nx+64*i) p.1)=some (p.2.aW (bT bn (x.nx+64*i))):=by simp[fK]) (hv:∀b,b∈gv->(bG x.mm b).isSome=true:=by simp) (hl:clean k=true:=by rfl):CI none dp (JG G) P nt R (.ops ops (o::rest) i ft d::k) x:=
 .Dn hG gv bn hct hen ho hc hd hg hf ha hn hk hv (.nC 99 400 hl h)
end
end
theorem rB (σ:Names)(hole:Option (Nat×Nat))(es:Array MapEntry):(dQ σ hole es).size=es.size:=by
 cases hole with
 |none=>rfl
 |some q=>simp[dQ]
theorem tL {σ:Names}{hole:Option (Nat×Nat)}{es:Array MapEntry}{i:Nat}{e:MapEntry}(h:(dQ σ hole es)[i]? =some e):∃e0,es[i]? =some e0/\e.key=e0.key/\e.born=e0.born:=by
 cases hole with
 |none=>exact⟨e,h,rfl,rfl⟩
 |some q=>
  obtain⟨j,c⟩:=q;simp only[dQ,rN]at h;split at h
  ·obtain⟨e0,h1,h2⟩:=iU.1 h;subst h2;exact⟨e0,h1,rfl,rfl⟩
  ·exact⟨e,h,rfl,rfl⟩
theorem As {σ σ':Names}{hole:Option (Nat×Nat)}{es:Array MapEntry}{i c:Nat}{v:Value}(hh:hole.map (·.1)=none\/hole.map (·.1)=some i)(hv:σ' c=some v):(dQ σ hole es).modify i (λe=>{e with val:=v})=dQ σ' (some (i,c)) es:=by
 have e:(σ' c).getD undef=v:=by rw[hv];rfl
 simp only[dQ,e];cases hole with
 |none=>rfl
 |some q=>
  obtain⟨j,c'⟩:=q;simp at hh;subst hh;apply Array.ext_getElem?;intro k;simp only[dQ,rN];split
  ·cases es[k]? <;>rfl
  ·rfl
structure rI (ka:Bool)(ks:List CK)(es:Array MapEntry)(clock:Nat)(keys:Nat->List Value):Prop where
 key:∀(i:Nat) e,es[i]? =some e->e.key=mk ka (keys i)/\dJ ks (keys i)=true
 inj:∀(i j:Nat),i<es.size->j<es.size->keys i=keys j->i=j
 born:∀(i:Nat) e,es[i]? =some e->e.born<clock
 apart:∀(i j:Nat) e e',es[i]? =some e->es[j]? =some e'->e.born=e'.born->i=j
theorem HS {keys:Nat->List Value}{kc:List Value}:∀{n i j:Nat},i<=j->j<i+n->keys j=kc->(∀k,i<=k->k<i+n->keys k=kc->k=j)->e8 kc keys n i=some j
 |0,i,j,h1,h2,_,_=>by omega
 |n+1,i,j,h1,h2,h3,h4=>by
  unfold e8;split
  ·rename_i h;rw[h4 i (aY _) (by omega) h.symm]
  ·rename_i h;have:i≠j:=λe=>h (by rw[e,h3]);exact HS (by omega) (by omega) h3 λk a b c=>h4 k (by omega) (by omega) c
theorem HQ {keys:Nat->List Value}{kc:List Value}:∀{n i:Nat},(∀k,i<=k->k<i+n->keys k≠kc)->e8 kc keys n i=none
 |0,_,_=>rfl
 |n+1,i,h=>by
  unfold e8;rw[aR λe=>h i (aY _) (by omega) e.symm];exact HQ λk a b=>h k (by omega) (by omega)
theorem GZ {σ:Names}{I:Nat->Prop}{w:World}{r s:AV}{u v:Value}(h1:RV σ I w r u)(h2:RV σ I w s v):RV σ I w (.bC [r,s]) (.tuple #[u,v]):=by
 refine .bC (xs:=[u,v]) rfl (λi c y h3 h4=>?_)
 match i,h3,h4 with
 |0,h3,h4=>simp at h3 h4;subst h3;subst h4;exact h1
 |1,h3,h4=>simp at h3 h4;subst h3;subst h4;exact h2
 |i+2,h3,h4=>simp at h3
section
variable {P : Program} {o : Oper} {T : TypeId} {m key s x : Operand} {tm : Nat -> AV} {mem : Mem} {nm : Nat} {ti te : TI} {K E : TypeId} {ka : Bool} {ks : List CK} {b : Nat} {es : Array MapEntry} {clock : Nat} {keys : Nat -> List Value} {kc : List Value}
theorem WA (ho:o.op=.mapEntry T m key)(hT:aH P T=some ti)(hk:ti.k=.map K E)(hK:pR P K ka ks){c i0:Nat}{e0:MapEntry}(hes:rI ka ks es clock keys)
  (hm0:ev tm m=.own b) (hkc:oU (ev tm key)=some kc) (hka:nG (ev tm key)=ka) (hf:dJ ks kc=true) (hi:es[i0]? =some e0) (hki:keys i0=kc) (hb:mem b=some (.cL es clock (some (i0,c)))):
  aO P o tm ((aG.mk (.bC [.own c,.d (.v (.int .i64 (e0.born:Int)))]) [] [(b,some (.cL es clock (some (i0,c))))]).mr mem) nm (.bC [.own c,.d (.v (.int .i64 (e0.born:Int)))]) ((aG.mk (.bC [.own c,.d (.v (.int .i64 (e0.born:Int)))]) [] [(b,some (.cL es clock (some (i0,c))))]).mw mem):=by
 have hu:=wT hT hk;refine aO.val λa w σ I h1 h h3 hfree=>?_;have hvk:=u7 hkc (bO (σ:=σ) (I:=I) (w:=w) (tm:=tm) (a:=a) (x:=key) λs e=>h s (by simp[ho,Op.operands,e]));rw[hka]at hvk;have hvm:=bO (σ:=σ) (I:=I) (w:=w) (tm:=tm) (a:=a) (x:=m) λs e=>h s (by simp[ho,Op.operands,e]);rw[hm0]at hvm;have hmr:=aG.eZ (e:=⟨.bC [.own c,.d (.v (.int .i64 (e0.born:Int)))],[],[(b,some (.cL es clock (some (i0,c))))]⟩) hb (.inr (by simp[wrote]));obtain⟨y,hy,hrb,hyn⟩:=h3.aS b _ hmr;generalize hev:a.eval m=u at hvm;cases hvm with
 |own h' _=>
  rw[hy]at h';cases h';cases hrb with
  | @cL _ _ n _ hw hc=>
    obtain⟨v0,hv0,hv1⟩:=hc _ rfl;have hlt:i0<es.size:=(e7.1 hi).1;have hei:(dQ σ (some (i0,c)) es)[i0]? =some {e0 with val:=v0}:=by simp[dQ,rN,hi,hv0]
    have hkeys:∀(j:Nat) e,(dQ σ (some (i0,c)) es)[j]? =some e->e.key=mk ka (keys j)/\dJ ks (keys j)=true:=λj e hj=>by
     obtain⟨e',q1,q2,_⟩:=tL hj;rw[q2];exact hes.key j e' q1
    have hck:=uX (w:=w) hK hf false;have hfk:=run_findKey (w:=w) hK hf (keys:=keys) (es:=dQ σ (some (i0,c)) es) hkeys;have hs:e8 kc keys (dQ σ (some (i0,c)) es).size 0=some i0:=HS (jJ _) (by rw[rB];omega) hki λk _ q2 q3=>hes.inj k i0 (by rw[rB]at q2;omega) hlt (by rw[q3,hki]);have hg:(getObj n).run P w=.ok (.map (dQ σ (some (i0,c)) es) clock) w:=by simp[getObj,Sem.run,hw]
    have hsb:=H6 hf (LQ hK) 9999;have hek:e0.key=mk ka kc:=by rw[<-hki];exact(hes.key i0 e0 hi).1
    have hgd:((dQ σ (some (i0,c)) es).getD i0 default).val=v0:=by
     have hl:i0<(dQ σ (some (i0,c)) es).size:=by rw[rB];exact hlt
     rw[show(dQ σ (some (i0,c)) es).getD i0 default=(dQ σ (some (i0,c)) es)[i0] by simp[Array.getD,hl]];rw[iV hl]at hei;rw[kJ hei]
    have hmod:((dQ σ (some (i0,c)) es).modify i0 λe=>{e with key:=mk ka kc})=dQ σ (some (i0,c)) es:=by
     apply Array.ext_getElem?;intro j;rw[rN];split
     ·rename_i e1;subst e1;rw[hei];simp[hek]
     ·rfl
    refine⟨.tuple #[v0,.int .i64 (e0.born:Int)],{w with heap:=w.heap.setIfInBounds n (.map (dQ σ (some (i0,c)) es) clock)},σ,I,?_,?_,?_⟩
    ·simp only[execOp,ho];rw[hev,hvk];simp only[Instr.mapEntry,bV,bQ hu,cC,hg,hck,hfk,hs,lF,hgd,hei,CB,hek,Instr.keyThatStays,hsb,dY,gW,hmod];simp[setObj,Sem.run,hw,goInt]
    ·refine cB.write (w':={w with heap:=w.heap.setIfInBounds n (.map (dQ σ (some (i0,c)) es) clock)}) (b:=b) h1 h3 hmr hy rfl (λj hj=>?_) (by simp) rfl rfl ⟨rfl,aY _⟩ ?_ qL
     ·simp[lH (mW hj)]
     ·exact .cL (by simp[(e7.1 hw).1]) λq hq=>by cases hq;exact⟨v0,hv0,hv1⟩
    ·exact GZ (.own hv0 hv1) (.d (.v _))
theorem V9 (ho:o.op=.mapEntry T m key)(hT:aH P T=some ti)(hk:ti.k=.map K E)(hE:aH P E=some te)(hza:te.za=te.agg)(hK:pR P K ka ks)(hes:rI ka ks es clock keys)
  (hm0:ev tm m=.own b) (hkc:oU (ev tm key)=some kc) (hka:nG (ev tm key)=ka) (hf:dJ ks kc=true) (hno:∀i,i<es.size->keys i≠kc) (hb:mem b=some (.cL es clock none)):
  aO P o tm ((aG.mk (.bC [vA te.agg (te.zero.map D.v),.d (.v (.int .i64 (clock:Int)))]) [] [(b,some (.cL (es.push ⟨mk ka kc,mk te.agg te.zero,clock⟩) (clock+1) none))]).mr mem) nm (.bC [vA te.agg (te.zero.map D.v),.d (.v (.int .i64 (clock:Int)))]) ((aG.mk (.bC [vA te.agg (te.zero.map D.v),.d (.v (.int .i64 (clock:Int)))]) [] [(b,some (.cL (es.push ⟨mk ka kc,mk te.agg te.zero,clock⟩) (clock+1) none))]).mw mem):=by
 have hu:=wT hT hk;refine aO.val λa w σ I h1 h h3 hfree=>?_;have hvk:=u7 hkc (bO (σ:=σ) (I:=I) (w:=w) (tm:=tm) (a:=a) (x:=key) λs e=>h s (by simp[ho,Op.operands,e]));rw[hka]at hvk;have hvm:=bO (σ:=σ) (I:=I) (w:=w) (tm:=tm) (a:=a) (x:=m) λs e=>h s (by simp[ho,Op.operands,e]);rw[hm0]at hvm;have hmr:=aG.eZ (e:=⟨.bC [vA te.agg (te.zero.map D.v),.d (.v (.int .i64 (clock:Int)))],[],[(b,some (.cL (es.push ⟨mk ka kc,mk te.agg te.zero,clock⟩) (clock+1) none))]⟩) hb (.inr (by simp[wrote]));obtain⟨y,hy,hrb,hyn⟩:=h3.aS b _ hmr;generalize hev:a.eval m=u at hvm;cases hvm with
 |own h' _=>
  rw[hy]at h';cases h';cases hrb with
  | @cL _ _ n _ hw hc=>
    have hck:=uX (w:=w) hK hf false;have hfk:=run_findKey (w:=w) hK hf (keys:=keys) (es:=es) hes.key;have hs:e8 kc keys es.size 0=none:=HQ λk _ q=>hno k (by omega);have hg:(getObj n).run P w=.ok (.map es clock) w:=by simp only[dQ]at hw;simp[getObj,Sem.run,hw]
    have hzr:(zeroValue E).run P w=.ok (mk te.agg te.zero) w:=v8 hE hza;refine⟨.tuple #[mk te.agg te.zero,.int .i64 (clock:Int)],{w with heap:=w.heap.setIfInBounds n (.map (es.push ⟨mk ka kc,mk te.agg te.zero,clock⟩) (clock+1))},σ,I,?_,?_,?_⟩
    ·simp only[execOp,ho];rw[hev,hvk];simp only[Instr.mapEntry,bV,bQ hu,cC,hg,hck,hfk,hs,Option.map_none,hzr];simp[setObj,Sem.run,hw,goInt]
    ·refine cB.write (w':={w with heap:=w.heap.setIfInBounds n (.map (es.push ⟨mk ka kc,mk te.agg te.zero,clock⟩) (clock+1))}) (b:=b) h1 h3 hmr hy rfl (λj hj=>?_) (by simp) rfl rfl ⟨rfl,aY _⟩ ?_ qL
     ·simp[lH (mW hj)]
     ·exact .cL (by simp[(e7.1 hw).1,dQ]) λq hq=>by cases hq
    ·refine GZ (yA (by simp) (λj c x h6 h7=>?_)) (.d (.v _));rw[fN,h7]at h6;cases h6;exact .v _
theorem JX (ho:o.op=.entryStore T m s x){c i0 B:Nat}{hole:Option (Nat×Nat)}(hap:∀(i j:Nat) e e',es[i]? =some e->es[j]? =some e'->e.born=e'.born->i=j){e0:MapEntry}(hi:es[i0]? =some e0)(hB:e0.born=B)
  (hh:hole.map (·.1)=none\/hole.map (·.1)=some i0) (hm0:ev tm m=.own b) (hs0:ev tm s=.d (.v (.int .i64 (B:Int)))) (hx0:ev tm x=.own c) (hb:mem b=some (.cL es clock hole)):
  aO P o tm ((aG.mk (.d (.v undef)) [] [(b,some (.cL es clock (some (i0,c))))]).mr mem) nm (.d (.v undef)) ((aG.mk (.d (.v undef)) [] [(b,some (.cL es clock (some (i0,c))))]).mw mem):=by
 refine aO.skip λa w σ I h1 h h3 _=>?_;have hvm:=bO (σ:=σ) (I:=I) (w:=w) (tm:=tm) (a:=a) (x:=m) λs e=>h s (by simp[ho,Op.operands,e]);have hvs:=bO (σ:=σ) (I:=I) (w:=w) (tm:=tm) (a:=a) (x:=s) λs e=>h s (by simp[ho,Op.operands,e]);have hvx:=bO (σ:=σ) (I:=I) (w:=w) (tm:=tm) (a:=a) (x:=x) λs e=>h s (by simp[ho,Op.operands,e]);rw[hm0]at hvm;rw[hs0]at hvs;rw[hx0]at hvx;have hes:a.eval s=.int .i64 (B:Int):=by
  generalize a.eval s=us at hvs;cases hvs with
  |d h6=>cases h6;rfl
 obtain⟨v2,hv2,hc2,hc1⟩:∃v2,a.eval x=v2/\σ c=some v2/\v2.oneCell'=true:=by
  generalize a.eval x=ux at hvx;cases hvx with
  |own h6 h7=>exact⟨_,rfl,h6,h7⟩
 have hmr:=aG.eZ (e:=⟨.d (.v undef),[],[(b,some (.cL es clock (some (i0,c))))]⟩) hb (.inr (by simp[wrote]));obtain⟨y,hy,hrb,hyn⟩:=h3.aS b _ hmr;generalize hev:a.eval m=u at hvm;cases hvm with
 |own h' _=>
  rw[hy]at h';cases h';cases hrb with
  | @cL _ _ n _ hw hc=>
    have hg:(getObj n).run P w=.ok (.map (dQ σ hole es) clock) w:=by simp[getObj,Sem.run,hw]
    have hlt:i0<es.size:=(e7.1 hi).1;have hl:i0<(dQ σ hole es).size:=by rw[rB];exact hlt
    have hfi:(dQ σ hole es).findIdx? (λe=>(e.born:Int)==(B:Int))=some i0:=by
     rw[Array.findIdx?_eq_some_iff_getElem];refine⟨hl,?_,λj hj=>?_⟩
     ·obtain⟨e',q1,_,q3⟩:=tL (iV hl);rw[hi]at q1;cases q1;rw[q3,hB];simp
     ·obtain⟨e',q1,_,q3⟩:=tL (iV (Nat.lt_trans hj hl));rw[q3];have:e'.born≠B:=λq=>by have:=hap j i0 e' e0 q1 hi (by rw[q,hB]);omega
      simp;omega
    have hmod:=As (σ:=σ) (es:=es) hh hc2;have hrun:(Instr.entryStore T (.map (some n)) (a.eval s) (a.eval x)).run P w=.ok () {w with heap:=w.heap.setIfInBounds n (.map (dQ σ (some (i0,c)) es) clock)}:=by
     rw[hes,hv2];have ha:(asInt (.int .i64 (B:Int))).run P w=.ok (B:Int) w:=rfl;simp only[Instr.entryStore,bV,hg,cC,ha,hfi,hmod];simp[setObj,Sem.run,hw]
    refine⟨_,σ,I,by rw[execOp,ho];simp only[hev,bV,hrun,cC];rfl,?_⟩;refine cB.write (w':={w with heap:=w.heap.setIfInBounds n (.map (dQ σ (some (i0,c)) es) clock)}) (b:=b) h1 h3 hmr hy rfl (λj hj=>?_) (by simp) rfl rfl ⟨rfl,aY _⟩ ?_ qL
    ·simp[lH (mW hj)]
    ·exact .cL (by simp[(e7.1 hw).1]) λq hq=>by cases hq;exact⟨v2,hc2,hc1⟩
end
open Classical in
noncomputable def gN (kv:Nat->List Value)(add:Nat->List (List D))(k:Nat)(v:List Value):List (List D):=((List.range k).filter λj=>decide (kv j=v)).flatMap add
open Classical in
theorem vI (kv:Nat->List Value)(add:Nat->List (List D))(k:Nat)(v:List Value):gN kv add (k+1) v=gN kv add k v++(if kv k=v then add k else []):=by
 unfold gN;rw[List.range_succ,jM,List.flatMap_append];by_cases h:kv k=v<;>simp[h]
open Classical in
noncomputable def mapM' (kv:Nat->List Value)(add:Nat->List (List D))(len:Nat):List Value->Option (List D):=λv=>if∃j,j<len/\kv j=v then some [.ro false (gN kv add len v)]else none
theorem RB.OM {σ σ':Names}{I:Nat->Prop}{w:World}{sz:Nat}{es:List (List D)}{T:TypeId}{v:Value}(h:RB σ I w (.grow sz es T) v):RB σ' I w (.grow sz es T) v:=by
 cases h with
 |none=>exact .none
 |emp a=>exact .emp a
 |grow h1 h2 h3 h4 h5 h6=>exact .grow h1 h2 h3 h4 h5 h6
theorem RB.QE {σ:Names}{I I':Nat->Prop}{w:World}{sz:Nat}{es:List (List D)}{T:TypeId}{v:Value}(h:RB σ I w (.grow sz es T) v)(hI:∀n,I n->I' n)(hm:∀j,hb v=some j->I' j):RD I' w (.ro false es) v:=by
 cases h with
 |none=>exact .nil
 |emp a=>exact .emp
 | @grow _ _ _ n cap arr g1 g2 g3 g4 g5 g6=>
   rcases mX cap with h0|h0
   ·subst h0;have:es=[]:=gX (by omega);subst this;exact .emp
   ·refine .ro (sz:=sz) (λi j=>arr.getD (i*sz+j) undef) (hm _ (mR h0)) g5 g3 g4 (λh=>by cases h) (λi e j c he hc=>?_) (λi e j c he hc=>?_) (λi e j c he hc=>?_)
    ·obtain⟨q,hq,_⟩:=g6 i e j c he hc;rw[rF g1,rK];simp[hq]
    ·obtain⟨q,hq,hr,_⟩:=g6 i e j c he hc;have:=hr.mono (I':=I') (λ_ _=>rfl) hI;simpa[hq]using this
    ·obtain⟨q,hq,_,ho⟩:=g6 i e j c he hc;simpa[hq]using ho
def W4 :Names:=λ_=>none
structure NI (E:Ctx)(ls:D)(len:Nat)(T:TypeId)(kv:Nat->List Value)(add:Nat->List (List D))(k:Nat)(a:Act)(w:World)(I:Nat->Prop)(n:Nat)(es:Array MapEntry)(clock:Nat)(keys:Nat->List Value):Prop where
 le:k<=len
 size:a.tmps.size=E.nt
 kU:a.defers=[]
 s3:a.tmps.getD 3 undef=.map (some n)
 s8:RD I w ls (a.tmps.getD 8 undef)
 s9:a.tmps.getD 9 undef=.int .i64 (len:Int)
 H7:a.tmps.getD 10 undef=.int .i64 (k:Int)
 hn:w.heap[n]? =some (.map es clock)
 nM:E.iQ n\/E.w0.heap.size<=n
 nI:¬I n
 ok:rI true [.int,.str] es clock keys
 val:∀(i:Nat) e,es[i]? =some e->RB W4 I w (.grow 2 (gN kv add k (keys i)) T) e.val/\e.val.oneCell'=true
 own:∀(i:Nat) e j,es[i]? =some e->hb e.val=some j->j<w.heap.size/\¬I j/\j≠n/\(E.iQ j\/E.w0.heap.size<=j)
 sep:∀(i i':Nat) e e' j,es[i]? =some e->es[i']? =some e'->hb e.val=some j->hb e'.val=some j->i=i'
 from_:∀i,i<es.size->∃j,j<k/\keys i=kv j
 has:∀j,j<k->∃i,i<es.size/\keys i=kv j
 ib:∀j,I j->j<w.heap.size
 i0:∀j,E.I0 j->I j
 fB:∀j,I j->E.I0 j\/E.iQ j\/E.w0.heap.size<=j
 os:w.os=E.w0.os
 tape:w.tape=E.w0.tape
 output:lC w E.w0
 hs:E.w0.heap.size<=w.heap.size
 frame:∀j,j<E.w0.heap.size->¬E.iQ j->w.heap[j]? =E.w0.heap[j]?
section
variable {E : Ctx} {ls : D} {len : Nat} {T : TypeId} {kv : Nat -> List Value} {add : Nat -> List (List D)} {k : Nat} {a : Act} {w : World} {I : Nat -> Prop} {n : Nat} {es : Array MapEntry} {clock : Nat} {keys : Nat -> List Value}
def iC (m:AV)(ls:D)(len k:Nat):List (Nat×AV):=[(3,m),(8,.d ls),(9,.d (.v (.int .i64 (len:Int)))),(10,.d (.v (.int .i64 (k:Int))))]
theorem E4 {σ:Names}{I':Nat->Prop}(h:NI E ls len T kv add k a w I n es clock keys){m:AV}(hm:RV σ I' w m (.map (some n)))(h8:RD I' w ls (a.tmps.getD 8 undef))(t:Nat):RV σ I' w (bH (iC m ls len k) t) (a.tmps.getD t undef):=by
 simp only[iC,bH];split
 ·rename_i e;subst e;rw[h.s3];exact hm
 ·split
  ·rename_i e;subst e;exact .d h8
  ·split
   ·rename_i e;subst e;rw[h.s9];exact .d (.v _)
   ·split
    ·rename_i e;subst e;rw[h.H7];exact .d (.v _)
    ·exact .any _
theorem NI.fin (h:NI E ls len T kv add len a w I n es clock keys)(hlow:∀b,64<=b->E.s0 b=none):Rel E (X.den ⟨iC (.own 64) ls len len,[(64,some (.map true [.int,.str] false (mapM' kv add len)))],65⟩) a w:=by
 let I':Nat->Prop:=λj=>I j\/∃(i:Nat) (e:MapEntry),es[i]? =some e/\hb e.val=some j
 let σ:Names:=λb=>if b=64 then some (.map (some n))else E.s0 b
 have hI:∀j,I j->I' j:=λj hj=>.inl hj;have s64:σ 64=some (.map (some n)):=bA rfl;have hnI:¬I' n:=by
  rintro(g|⟨i,e,h1,h2⟩)
  ·exact h.nI g
  ·exact(h.own i e n h1 h2).2.2.1 rfl
 refine⟨σ,I',h.size,h.kU,E4 h (.own s64 rfl) (h.s8.mono (λ_ _=>rfl) hI),⟨λb q hq=>?_,λb b' q q' x x' j h1 h2 h3 h4 h5 h6=>?_⟩,λb hb=>?_,λj hj=>?_,λj hj=>.inl (h.i0 j hj),λj hj=>?_,λj hj=>?_,h.os,h.tape,h.output,h.hs,h.frame,λb x hb=>?_,hlow⟩
 ·simp only[X.den,bG]at hq;split at hq
  ·rename_i e;subst e;cases hq;refine⟨_,s64,?_,λj hj=>by cases hj;exact⟨(e7.1 h.hn).1,hnI⟩⟩;have key:∀i,i<es.size->mapM' kv add len (keys i)=some [.ro false (gN kv add len (keys i))]:=λi hi=>by
    obtain⟨j,h1,h2⟩:=h.from_ i hi;exact bA ⟨j,h1,h2.symm⟩
   refine .map keys (λi=>[(es.getD i default).val]) h.hn h.ok.born (λi e hi=>?_) h.ok.inj (λv d hv=>?_) (λi d j c x hi hd hc hx=>?_)
   ·have hlt:=(e7.1 hi).1;obtain⟨q1,q2⟩:=h.ok.key i e hi;refine⟨q1,?_,q2,_,key i hlt,rfl⟩;rw[show es.getD i default=e by rw[e7]at hi;simp[Array.getD,hlt,hi.2]];rfl
   ·unfold mapM' at hv;split at hv
    ·rename_i g;obtain⟨j,h1,h2⟩:=g;obtain⟨i,h3,h4⟩:=h.has j h1;exact⟨i,h3,by rw[h4,h2]⟩
    ·cases hv
   ·rw[key i hi]at hd;cases hd;cases j with
    |succ j=>simp at hc
    |zero=>
     simp at hc hx;subst hc;subst hx;have he:es[i]? =some es[i]:=iV hi;rw[he];exact(h.val i _ he).1.QE hI λj hj=>.inr ⟨i,_,he,hj⟩
  ·cases hq
 ·simp only[X.den,bG]at h1 h2;split at h1
  ·split at h2
   ·rename_i e1 e2;rw[<-e1,<-e2]
   ·cases h2
  ·cases h1
 ·show σ b=none;have hb:65<=b:=hb;simp only[σ];rw[aR (by omega)];exact hlow b (by omega)
 ·rcases hj with g|⟨i,e,h1,h2⟩
  ·exact h.ib j g
  ·exact(h.own i e j h1 h2).1
 ·rcases hj with g|⟨i,e,h1,h2⟩
  ·exact h.fB j g
  ·exact .inr (h.own i e j h1 h2).2.2.2
 ·obtain⟨b,q,x,h1,h2,h3⟩:=hj;simp only[X.den,bG]at h1;split at h1
  ·rename_i e;subst e;rw[s64]at h2;cases h2;cases h3;exact h.nM
  ·cases h1
 ·simp only[σ];have:b≠64:=λe=>by rw[hlow b (by omega)]at hb;cases hb
  rw[aR this];exact hb
end
def o5 (E:Ctx)(w:World)(I:Nat->Prop)(n:Nat)(v:Option Value):Ctx where
 P:=E.P
 w0:=w
 iQ:=λj=>j=n\/∃x,v=some x/\hb x=some j
 I0:=I
 nt:=E.nt
 s0:=λb=>if b=3 then some (.map (some n))else if b=4 then v else none
section
variable {E : Ctx} {ls : D} {len : Nat} {T : TypeId} {kv : Nat -> List Value} {add : Nat -> List (List D)} {k : Nat} {a a' : Act} {w w' : World} {I : Nat -> Prop} {n : Nat} {es es' : Array MapEntry} {clock clock' i0 : Nat} {keys oT : Nat -> List Value} {e0 : MapEntry} {v : Option Value} {rows : List (List D)}
theorem modify_id {es:Array MapEntry}{i:Nat}{e:MapEntry}(h:es[i]? =some e){v:Value}(hv:v=e.val):es.modify i (λe=>{e with val:=v})=es:=by
 apply Array.ext_getElem?;intro j;rw[rN];split
 ·rename_i q;subst q;rw[h,hv];rfl
 ·rfl
theorem NI.TS (h:NI E ls len T kv add k a w I n es clock keys)(hi:es[i0]? =some e0):Rel (o5 E w I n (some e0.val)) (X.den ⟨iC (.own 3) ls len k,[(3,some (.cL es clock (some (i0,4)))),(4,some (.grow 2 (gN kv add k (keys i0)) T))],64⟩) a w:=by
 have s3:(o5 E w I n (some e0.val)).s0 3=some (.map (some n)):=rfl;have s4:(o5 E w I n (some e0.val)).s0 4=some e0.val:=rfl;obtain⟨v1,v2⟩:=h.val i0 e0 hi;refine⟨(o5 E w I n (some e0.val)).s0,I,h.size,h.kU,E4 h (.own s3 rfl) h.s8,⟨λb q hq=>?_,λb b' q q' x x' j h1 h2 h3 h4 h5 h6=>?_⟩,λb hb=>?_,h.ib,λj hj=>hj,λj hj=>.inl hj,λj hj=>?_,rfl,rfl,.refl _,aY _,λ_ _ _=>rfl,λb x hx=>hx,λb hb=>?_⟩
 ·simp only[X.den,bG]at hq;split at hq
  ·rename_i e;subst e;cases hq;refine⟨_,s3,.cL ?_ λq hq=>by cases hq;exact⟨_,s4,v2⟩,λj hj=>by cases hj;exact⟨(e7.1 h.hn).1,h.nI⟩⟩;rw[dQ,modify_id hi (by rw[s4];rfl)];exact h.hn
  ·split at hq
   ·rename_i e;subst e;cases hq;exact⟨_,s4,v1.OM,λj hj=>⟨(h.own i0 e0 j hi hj).1,(h.own i0 e0 j hi hj).2.1⟩⟩
   ·cases hq
 ·have key:∀{b q},(X.den ⟨iC (.own 3) ls len k,[(3,some (.cL es clock (some (i0,4)))),(4,some (.grow 2 (gN kv add k (keys i0)) T))],64⟩).mm b=some q->b=3\/b=4:=λ{b q} g=>by
   simp only[X.den,bG]at g;split at g
   ·exact .inl (by omega)
   ·split at g
    ·exact .inr (by omega)
    ·cases g
  rcases key h1 with rfl|rfl<;>rcases key h2 with rfl|rfl
  ·rfl
  ·rw[s3]at h3;rw[s4]at h4;cases h3;cases h4;cases h5;exact absurd rfl (h.own i0 e0 _ hi h6).2.2.1
  ·rw[s4]at h3;rw[s3]at h4;cases h3;cases h4;cases h6;exact absurd rfl (h.own i0 e0 _ hi h5).2.2.1
  ·rfl
 ·have hb:64<=b:=hb;show(if b=3 then _ else if b=4 then _ else none)=none;rw[aR (by omega),aR (by omega)]
 ·obtain⟨b,q,x,h1,h2,h3⟩:=hj;simp only[X.den,bG]at h1;split at h1
  ·rename_i e;subst e;rw[s3]at h2;cases h2;cases h3;exact .inl (.inl rfl)
  ·split at h1
   ·rename_i e;subst e;rw[s4]at h2;cases h2;exact .inl (.inr ⟨_,rfl,h3⟩)
   ·cases h1
 ·show(if b=3 then _ else if b=4 then _ else none)=none;rw[aR (by omega),aR (by omega)]
theorem NI.TR (h:NI E ls len T kv add k a w I n es clock keys):Rel (o5 E w I n none) (X.den ⟨iC (.own 3) ls len k,[(3,some (.cL es clock none))],64⟩) a w:=by
 have s3:(o5 E w I n none).s0 3=some (.map (some n)):=rfl;have nn:∀b,b≠3->(o5 E w I n none).s0 b=none:=λb hb=>by
  show(if b=3 then _ else if b=4 then none else none)=none;rw[aR hb];split<;>rfl
 refine⟨(o5 E w I n none).s0,I,h.size,h.kU,E4 h (.own s3 rfl) h.s8,⟨λb q hq=>?_,λb b' q q' x x' j h1 h2 h3 h4 h5 h6=>?_⟩,λb hb=>nn b (by have:64<=b:=hb;omega),h.ib,λj hj=>hj,λj hj=>.inl hj,λj hj=>?_,rfl,rfl,.refl _,aY _,λ_ _ _=>rfl,λb x hx=>hx,λb hb=>nn b (by omega)⟩
 ·simp only[X.den,bG]at hq;split at hq
  ·rename_i e;subst e;cases hq;exact⟨_,s3,.cL h.hn (λq hq=>by cases hq),λj hj=>by cases hj;exact⟨(e7.1 h.hn).1,h.nI⟩⟩
  ·cases hq
 ·simp only[X.den,bG]at h1 h2;split at h1
  ·split at h2
   ·rename_i e1 e2;rw[<-e1,<-e2]
   ·cases h2
  ·cases h1
 ·obtain⟨b,q,x,h1,h2,h3⟩:=hj;simp only[X.den,bG]at h1;split at h1
  ·rename_i e;subst e;rw[s3]at h2;cases h2;cases h3;exact .inl (.inl rfl)
  ·cases h1
theorem NI.next (h:NI E ls len T kv add k a w I n es clock keys)(hk:k<len)(hr:Rel (o5 E w I n v) (X.den ⟨iC (.own 3) ls len (k+1),[(3,some (.cL es' clock' (some (i0,65)))),(65,some (.grow 2 (gN kv add (k+1) (kv k)) T))],66⟩) a' w')
  (hes:rI true [.int,.str] es' clock' oT) (hi0:i0<es'.size) (hold:∀i,i≠i0->es'[i]? =es[i]? /\oT i=keys i) (hk0:oT i0=kv k) (hle:es.size<=es'.size) (hin:∀i,i<es.size->oT i=keys i)
  (hv:∀x,v=some x->∃e,es[i0]? =some e/\e.val=x):∃I' es'',NI E ls len T kv add (k+1) a' w' I' n es'' clock' oT:=by
 obtain⟨σ,I',r⟩:=hr;have s3:σ 3=some (.map (some n)):=r.jW 3 _ rfl;obtain⟨x3,y3,rb3,-⟩:=r.mm.aS 3 (.cL es' clock' (some (i0,65))) rfl;obtain⟨v2,y65,rb65,hn65⟩:=r.mm.aS 65 (.grow 2 (gN kv add (k+1) (kv k)) T) rfl;rw[s3]at y3;cases y3;have hnI':¬I' n:=by
  obtain⟨x,q1,_,q2⟩:=r.mm.aS 3 (.cL es' clock' (some (i0,65))) rfl;rw[s3]at q1;cases q1;exact(q2 n rfl).2
 cases rb3 with
 |cL hw hc=>
 obtain⟨v2',y65',one⟩:=hc _ rfl;rw[y65]at y65';cases y65';have hfill:∀i,(dQ σ (some (i0,65)) es')[i]? =if i0=i then es'[i]?.map (λe=>{e with val:=v2})else es'[i]? :=λi=>by
  simp only[dQ,rN,y65,CB]
 have same:∀j,j<w.heap.size->j≠n->(∀x,v=some x->hb x≠some j)->w'.heap[j]? =w.heap[j]? :=λj h1 h2 h3=>r.frame j h1 (by rintro(g|⟨x,g1,g2⟩);exact h2 g;exact h3 x g1 g2);have vown:∀x j,v=some x->hb x=some j->j<w.heap.size/\¬I j/\j≠n/\(E.iQ j\/E.w0.heap.size<=j):=λx j h1 h2=>by
  obtain⟨e,g1,g2⟩:=hv x h1;exact h.own i0 e j g1 (by rw[g2];exact h2)
 have sameI:∀j,I j->w'.heap[j]? =w.heap[j]? :=λj hj=>same j (h.ib j hj) (λe=>h.nI (e▸hj)) (λx h1 h2=>(vown x j h1 h2).2.1 hj);have other:∀i e j,i≠i0->es[i]? =some e->hb e.val=some j->j<w.heap.size/\¬I' j/\j≠n/\(E.iQ j\/E.w0.heap.size<=j)/\w'.heap[j]? =w.heap[j]? /\∀x,v=some x->hb x≠some j:=λi e j hi he hj=>by
  obtain⟨o1,o2,o3,o4⟩:=h.own i e j he hj;have nv:∀x,v=some x->hb x≠some j:=λx h1 h2=>by
   obtain⟨e',g1,g2⟩:=hv x h1;exact hi (h.sep i i0 e e' j he g1 hj (by rw[g2];exact h2))
  refine⟨o1,λg=>?_,o3,o4,same j o1 o3 nv,nv⟩;rcases r.fB j g with g1|g1|g1
  ·exact o2 g1
  ·rcases g1 with g2|⟨x,g2,g3⟩
   ·exact o3 g2
   ·exact nv x g2 g3
  ·exact absurd g1 (by show¬w.heap.size<=j;omega)
 have eM:∀j,hb v2=some j->j≠n/\(E.iQ j\/E.w0.heap.size<=j)/\(j<w.heap.size->∃x,v=some x/\hb x=some j):=λj hj=>by
  have hne:j≠n:=λe=>by
   subst e;have:=r.mm.apart 3 65 _ _ _ _ j rfl rfl s3 y65 rfl hj;omega
  refine⟨hne,?_,λhlt=>?_⟩
  ·rcases r.eM j ⟨65,_,v2,rfl,y65,hj⟩with g|g
   ·rcases g with g|⟨x,g1,g2⟩
    ·exact absurd g hne
    ·exact(vown x j g1 g2).2.2.2
   ·exact .inr (cD h.hs g)
  ·rcases r.eM j ⟨65,_,v2,rfl,y65,hj⟩with g|g
   ·rcases g with g|g
    ·exact absurd g hne
    ·exact g
   ·exact absurd g (by show¬w.heap.size<=j;omega)
 have tm:∀t x,bH (iC (.own 3) ls len (k+1)) t=x->RV σ I' w' x (a'.tmps.getD t undef):=λt x e=>e▸r.tm t;have r3:=tm 3 (.own 3) rfl;have r8:=tm 8 (.d ls) rfl;have r9:=tm 9 (.d (.v (.int .i64 (len:Int)))) rfl;have r10:=tm 10 (.d (.v (.int .i64 ((k+1:Nat):Int)))) rfl;have contO:∀i,i<es'.size->i≠i0->gN kv add (k+1) (oT i)=gN kv add k (oT i):=λi h1 h2=>by
  rw[vI,aR,yL];intro e;exact h2 (hes.inj i i0 h1 hi0 (by rw[hk0,e]))
 refine⟨I',dQ σ (some (i0,65)) es',⟨by omega,r.size,r.kU,?_,?_,?_,?_,hw,h.nM,hnI',⟨λi e hi=>?_,λi j h1 h2=>hes.inj i j (by rwa[rB]at h1) (by rwa[rB]at h2),λi e hi=>?_,λi j e e' h1 h2 h3=>?_⟩,λi e hi=>?_,λi e j hi hj=>?_,λi i' e e' j h1 h2 h3 h4=>?_,λi hi=>?_,λj hj=>?_,r.ib,λj hj=>r.i0 j (h.i0 j hj),λj hj=>?_,r.os.trans h.os,r.tape.trans h.tape,r.output.trans h.output,cD h.hs r.hs,λj h1 h2=>?_⟩⟩
 ·generalize a'.tmps.getD 3 undef=u at r3;cases r3 with
  |own q _=>rw[s3]at q;cases q;rfl
 ·generalize a'.tmps.getD 8 undef=u at r8;cases r8 with
  |d q=>exact q
 ·generalize a'.tmps.getD 9 undef=u at r9;cases r9 with
  |d q=>cases q;rfl
 ·generalize a'.tmps.getD 10 undef=u at r10;cases r10 with
  |d q=>cases q;rfl
 ·obtain⟨e',g1,g2,_⟩:=tL hi;rw[g2];exact hes.key i e' g1
 ·obtain⟨e',g1,_,g3⟩:=tL hi;rw[g3];exact hes.born i e' g1
 ·obtain⟨e1,g1,_,g3⟩:=tL h1;obtain⟨e2,g4,_,g6⟩:=tL h2;exact hes.apart i j e1 e2 g1 g4 (by rw[<-g3,<-g6,h3])
 ·rw[hfill]at hi;split at hi
  ·rename_i q;subst q;obtain⟨e1,g1,g2⟩:=iU.1 hi;subst g2;rw[hk0];exact⟨rb65.OM,one⟩
  ·rename_i q;have q:i≠i0:=λe=>q e.symm;have hlt:i<es'.size:=(e7.1 hi).1;rw[contO i hlt q,(hold i q).2];rw[(hold i q).1]at hi;obtain⟨g1,g2⟩:=h.val i e hi;exact⟨g1.mono sameI r.i0 (λ_ _ g=>g) (λj hj=>(other i e j q hi hj).2.2.2.2.1),g2⟩
 ·rw[hfill]at hi;split at hi
  ·rename_i q;subst q;obtain⟨e1,g1,g2⟩:=iU.1 hi;subst g2;obtain⟨m1,m2,_⟩:=eM j hj;exact⟨(hn65 j hj).1,(hn65 j hj).2,m1,m2⟩
  ·rename_i q;have q:i≠i0:=λe=>q e.symm;rw[(hold i q).1]at hi;obtain⟨o1,o2,o3,o4,_⟩:=other i e j q hi hj;exact⟨pD o1 r.hs,o2,o3,o4⟩
 ·rw[hfill]at h1 h2;by_cases q1:i0=i<;>by_cases q2:i0=i'
  ·omega
  ·rw[bA q1]at h1;rw[aR q2,(hold i' (λe=>q2 e.symm)).1]at h2;obtain⟨e1,g1,g2⟩:=iU.1 h1;subst g2;obtain⟨o1,_,_,_,_,o6⟩:=other i' e' j (λe=>q2 e.symm) h2 h4;obtain⟨x,x1,x2⟩:=(eM j h3).2.2 o1;exact absurd x2 (o6 x x1)
  ·rw[bA q2]at h2;rw[aR q1,(hold i (λe=>q1 e.symm)).1]at h1;obtain⟨e1,g1,g2⟩:=iU.1 h2;subst g2;obtain⟨o1,_,_,_,_,o6⟩:=other i e j (λe=>q1 e.symm) h1 h3;obtain⟨x,x1,x2⟩:=(eM j h4).2.2 o1;exact absurd x2 (o6 x x1)
  ·rw[aR q1,(hold i (λe=>q1 e.symm)).1]at h1;rw[aR q2,(hold i' (λe=>q2 e.symm)).1]at h2;exact h.sep i i' e e' j h1 h2 h3 h4
 ·rw[rB]at hi;by_cases q:i=i0
  ·subst q;exact⟨k,by omega,hk0⟩
  ·have:i<es.size:=by
    have he:es'[i]? =some es'[i]:=iV hi;rw[(hold i q).1]at he;exact(e7.1 he).1
   obtain⟨j,g1,g2⟩:=h.from_ i this;exact⟨j,by omega,by rw[(hold i q).2,g2]⟩
 ·by_cases q:j=k
  ·subst q;exact⟨i0,by rw[rB];exact hi0,hk0⟩
  ·obtain⟨i,g1,g2⟩:=h.has j (by omega);exact⟨i,by rw[rB];omega,by rw[hin i g1,g2]⟩
 ·rcases r.fB j hj with g|g|g
  ·exact h.fB j g
  ·rcases g with g|⟨x,g1,g2⟩
   ·exact .inr (g▸h.nM)
   ·exact .inr (vown x j g1 g2).2.2.2
  ·exact .inr (.inr (cD h.hs g))
 ·have hlt:j<w.heap.size:=pD h1 h.hs;rw[same j hlt (λe=>?_) (λx g1 g2=>?_)]
  ·exact h.frame j h1 h2
  ·subst e;rcases h.nM with g|g
   ·exact h2 g
   ·omega
  ·rcases(vown x j g1 g2).2.2.2 with g|g
   ·exact h2 g
   ·omega
end
theorem aJ.Ar {P:Program}{nt:Nat}{R:Exit->X->Prop}(hm:P.follows .mixedOrders=true){c:Code}{k:List It}(hk:clean k=true){x:X}{ls:D}{len:Nat}{T:TypeId}{kv:Nat->List Value}{add:Nat->List (List D)}
  (h3:bH x.tm 3=.own 64) (h8:bH x.tm 8=.d ls) (h9:bH x.tm 9=.d (.v (.int .i64 (len:Int)))) (h10:bH x.tm 10=.d (.v (.int .i64 0))) (h64:bG x.mm 64=some (.map true [.int,.str] false λ_=>none))
  (old:∀(kk:Nat) (es:Array MapEntry) (clock:Nat) (keys:Nat->List Value) (i0:Nat) (e0:MapEntry) (B:X->Prop),kk<len->rI true [.int,.str] es clock keys->es[i0]? =some e0->keys i0=kv kk->
    (∀x g gv,vN x (iC (.own 3) ls len (kk+1)) [(3,.cL es clock (some (i0,65))),(65,.grow 2 (gN kv add (kk+1) (kv kk)) T)] 66 g gv->B x)->
    CI none 0 J0 P nt (λ_ _=>False) (.code c:: .stop B::[]) ⟨iC (.own 3) ls len kk,[(3,some (.cL es clock (some (i0,4)))),(4,some (.grow 2 (gN kv add kk (kv kk)) T))],64⟩)
  (new:∀(kk:Nat) (es:Array MapEntry) (clock:Nat) (keys:Nat->List Value) (B:X->Prop),kk<len->rI true [.int,.str] es clock keys->(∀i,i<es.size->keys i≠kv kk)->gN kv add (kk+1) (kv kk)=add kk->
    (∀x g gv,vN x (iC (.own 3) ls len (kk+1)) [(3,.cL (es.push ⟨mk true (kv kk),.slice none 0 0,clock⟩) (clock+1) (some (es.size,65))),(65,.grow 2 (add kk) T)] 66 g gv->B x)->
    CI none 0 J0 P nt (λ_ _=>False) (.code c:: .stop B::[]) ⟨iC (.own 3) ls len kk,[(3,some (.cL es clock none))],64⟩)
  (hf:∀kk,dJ [.int,.str] (kv kk)=true)
  (fin:CI none 0 J0 P nt R (.code c:: .stop (λ_=>False)::k) ⟨iC (.own 64) ls len len,[(64,some (.map true [.int,.str] false (mapM' kv add len)))],65⟩):aJ none 0 J0 P nt R c k x:=by
 intro E hP hn hJ a w hr;subst hP;obtain⟨σ,I,r⟩:=hr;have low:=r.low;have tm:∀t y,bH x.tm t=y->RV σ I w y (a.tmps.getD t undef):=λt y e=>e▸r.tm t;have h0:∃n clock,NI E ls len T kv add 0 a w I n #[] clock λ_=>[]:=by
  obtain⟨v,hv,rb,hnI⟩:=r.mm.aS 64 _ h64;cases rb with
  | @map _ _ _ _ n clock es keys vals hw hbn hk' hu hl hv'=>
    have he:es=#[]:=by
     cases hs:es.size with
     |zero=>exact Array.eq_empty_of_size_eq_zero hs
     |succ m=>
      obtain⟨_,_,_,d,hd,_⟩:=hk' 0 es[0] (iV (by omega));cases hd
    subst he;refine⟨n,clock,⟨jJ _,r.size,r.kU,?_,?_,?_,?_,hw,r.eM n ⟨64,_,_,h64,hv,rfl⟩,(hnI n rfl).2,⟨λi e h=>by simp at h,λi j h=>by simp at h,λi e h=>by simp at h,λi j e e' h=>by simp at h⟩,λi e h=>by simp at h,λi e j h=>by simp at h,λi i' e e' j h=>by simp at h,λi h=>by simp at h,λj h=>by omega,r.ib,r.i0,λj hj=>?_,r.os,r.tape,r.output,r.hs,r.frame⟩⟩
    ·have:=tm 3 _ h3;generalize a.tmps.getD 3 undef=u at this;cases this with
     |own q _=>rw[hv]at q;cases q;rfl
    ·have:=tm 8 _ h8;generalize a.tmps.getD 8 undef=u at this;cases this with
     |d q=>exact q
    ·have:=tm 9 _ h9;generalize a.tmps.getD 9 undef=u at this;cases this with
     |d q=>cases q;rfl
    ·have:=tm 10 _ h10;generalize a.tmps.getD 10 undef=u at this;cases this with
     |d q=>cases q;rfl
    ·rcases r.fB j hj with g|g|g
     ·exact .inl g
     ·exact .inr (.inl g)
     ·exact .inr (.inr g)
 obtain⟨n0,clock0,h0⟩:=h0
 let M:Act->World->Nat:=λa _=>match a.tmps.getD 10 undef with
  |.int _ z=>len-z.toNat
  |_=>0
 have hM:∀{k a w I n es clock keys},NI E ls len T kv add k a w I n es clock keys->M a w=len-k:=λh=>by
  simp only[M,h.H7];omega
 refine wpIn_loop (λa w=>∃k I n es clock keys,NI E ls len T kv add k a w I n es clock keys) M ⟨_,_,_,_,_,_,h0⟩ ?_;rintro a w ⟨kk,I,n,es,clock,keys,h⟩;by_cases hkk:kk<len
 ·by_cases hx:∃i0,i0<es.size/\keys i0=kv kk
  ·obtain⟨i0,hi0,hki⟩:=hx;have he0:es[i0]? =some es[i0]:=iV hi0;have c1:=old kk es clock keys i0 es[i0] (λx=>∀(E:Ctx) a w,Rel E x.den a w->Rel E (X.den ⟨iC (.own 3) ls len (kk+1),[(3,some (.cL es clock (some (i0,65)))),(65,some (.grow 2 (gN kv add (kk+1) (kv kk)) T))],66⟩) a w) hkk h.ok he0 hki (λx g gv hs E a w hr=>Rel.sub hs hr);have rel:=h.TS he0;rw[hki]at rel;have:=(pA hm c1 (o5 E w I n (some es[i0].val)) rfl hn (λ_ _ _ _ _ _=>trivial)).1 (by simp[clean,eO]) a w rel;simp only[bY]at this;refine oI this (λe a' w' hq=>?_);cases e with
   |normal=>
    simp only[bY,Exit.then]at hq⊢;obtain⟨y,hy,hB⟩:=hq;obtain⟨I',es'',h'⟩:=h.next hkk (hB _ _ _ hy) h.ok hi0 (λi _=>⟨rfl,rfl⟩) hki (aY _) (λ_ _=>rfl) (λx hx=>by cases hx;exact⟨_,he0,rfl⟩);exact⟨⟨_,_,_,_,_,_,h'⟩,by rw[hM h',hM h];omega⟩
   |_=>simp only[bY,lP]at hq;obtain⟨_,_,g⟩:=hq;exact g.elim
  ·have hno:∀i,i<es.size->keys i≠kv kk:=λi hi e=>hx ⟨i,hi,e⟩;have hc0:gN kv add kk (kv kk)=[]:=by
    unfold gN;rw[List.filter_eq_nil_iff.2,List.flatMap_nil];intro j hj;have hj:j<kk:=by simpa using hj
    obtain⟨i,g1,g2⟩:=h.has j hj;simp only[dO];exact λe=>hno i g1 (by rw[g2,e])
   have hc1:gN kv add (kk+1) (kv kk)=add kk:=by rw[vI,hc0,bA rfl,uI]
   have c1:=new kk es clock keys (λx=>∀(E:Ctx) a w,Rel E x.den a w->Rel E (X.den ⟨iC (.own 3) ls len (kk+1),[(3,some (.cL (es.push ⟨mk true (kv kk),.slice none 0 0,clock⟩) (clock+1) (some (es.size,65)))),(65,some (.grow 2 (add kk) T))],66⟩) a w) hkk h.ok hno hc1 (λx g gv hs E a w hr=>Rel.sub hs hr);have:=(pA hm c1 (o5 E w I n none) rfl hn (λ_ _ _ _ _ _=>trivial)).1 (by simp[clean,eO]) a w h.TR;simp only[bY]at this;refine oI this (λe a' w' hq=>?_);cases e with
   |normal=>
    simp only[bY,Exit.then]at hq⊢;obtain⟨y,hy,hB⟩:=hq;have hpu:∀(i:Nat) e,(es.push ⟨mk true (kv kk),.slice none 0 0,clock⟩)[i]? =some e->(i<es.size/\es[i]? =some e)\/(i=es.size/\e=⟨mk true (kv kk),.slice none 0 0,clock⟩):=λi e hi=>by
     rw[v7]at hi;split at hi
     ·rename_i q;exact .inr ⟨q,by cases hi;rfl⟩
     ·exact .inl ⟨(e7.1 hi).1,hi⟩
    have hr':=hB _ _ _ hy;rw[<-hc1]at hr';have hok:rI true [.int,.str] (es.push ⟨mk true (kv kk),.slice none 0 0,clock⟩) (clock+1) (λi=>if i=es.size then kv kk else keys i):=by
     refine⟨λi e hi=>?_,λi j h1 h2 h3=>?_,λi e hi=>?_,λi j e e' h1 h2 h3=>?_⟩
     ·rcases hpu i e hi with⟨g1,g2⟩|⟨g1,g2⟩
      ·simp only[aR (show i≠es.size by omega)];exact h.ok.key i e g2
      ·subst g1;subst g2;simp[hf kk]
     ·simp only[Array.size_push]at h1 h2;by_cases q1:i=es.size<;>by_cases q2:j=es.size<;>simp only[q1,q2,dY,j5]at h3
      ·omega
      ·exact absurd h3.symm (hno j (by omega))
      ·exact absurd h3 (hno i (by omega))
      ·exact h.ok.inj i j (by omega) (by omega) h3
     ·rcases hpu i e hi with⟨g1,g2⟩|⟨g1,g2⟩
      ·have:=h.ok.born i e g2;omega
      ·subst g2;show clock<clock+1;omega
     ·rcases hpu i e h1 with⟨g1,g2⟩|⟨g1,g2⟩<;>rcases hpu j e' h2 with⟨g3,g4⟩|⟨g3,g4⟩
      ·exact h.ok.apart i j e e' g2 g4 h3
      ·subst g4;have:=h.ok.born i e g2;simp only at h3;omega
      ·subst g2;have:=h.ok.born j e' g4;simp only at h3;omega
      ·omega
    obtain⟨I',es'',h'⟩:=h.next (v:=none) hkk hr' hok (by simp) (λi hi=>⟨by rw[v7,aR hi],aR hi⟩) (bA rfl) (by simp) (λi hi=>aR (by omega)) (λx hx=>by cases hx);exact⟨⟨_,_,_,_,_,_,h'⟩,by rw[hM h',hM h];omega⟩
   |_=>simp only[bY,lP]at hq;obtain⟨_,_,g⟩:=hq;exact g.elim
 ·have:kk=len:=by have:=h.le;omega
  subst this;have:=(pA hm fin E rfl hn hJ).1 (by simpa[clean,eO]using hk) a w (h.fin low);simp only[bY]at this;refine oI this (λe a' w' hq=>?_);cases e with
  |normal=>
   simp only[bY]at hq;obtain⟨_,_,g⟩:=hq;exact g.elim
  |_=>simpa only[bY,Exit.then]using hq
theorem Cl {kv:Nat->List Value}{add:Nat->List (List D)}{m:Nat}(h:∀j,(add j).length<=m)(k:Nat)(v:List Value):(gN kv add k v).length<=k*m:=by
 induction k with
 |zero=>simp[gN]
 |succ k ih=>
  rw[vI,oK,fU];split
  ·have:=h k;omega
  ·simp;omega
theorem Cm {kv:Nat->List Value}{add:Nat->List (List D)}{m:Nat}(h:∀j,gL (add j) m)(k:Nat)(v:List Value):gL (gN kv add k v) m:=by
 induction k with
 |zero=>simp[gN]
 |succ k ih=>
  rw[vI,X3];refine⟨ih,?_⟩;split
  ·exact h k
  ·simp
theorem rI.UI {ka:Bool}{ks:List CK}{es:Array MapEntry}{clock:Nat}{keys:Nat->List Value}(h:rI ka ks es clock keys)(x:MapEntry)(hx:x.born=clock):∀(i j:Nat) e e',(es.push x)[i]? =some e->(es.push x)[j]? =some e'->e.born=e'.born->i=j:=by
 intro i j e e' h1 h2 h3;rw[v7]at h1 h2;split at h1<;>split at h2
 ·omega
 ·cases h1;have:=h.born j e' h2;omega
 ·cases h2;have:=h.born i e h1;omega
 ·exact h.apart i j e e' h1 h2 h3
section
variable {ro : Option Nat} {dp : Nat} {J : Names -> (Nat -> Prop) -> World -> Prop}
def gU (ro:Option Nat)(dp:Nat)(J:Names->(Nat->Prop)->World->Prop)(P:Program)(nt:Nat)(R:Exit->X->Prop)(c:Code)(k:List It)(m:Nat)(x:X):Prop:=
 ∀E:Ctx,E.P=P->E.nt=nt->(∀s σ I a w,jH E s σ I a w->J σ I w)->∀a w,Rel E x.den a w->Code.roundsIn (FW ro) dp P c (bY ro dp J E k (lP E R)) m a w
theorem aJ.rounds {P:Program}{nt:Nat}{R:Exit->X->Prop}{c:Code}{k:List It}{x:X}(m:Nat)(h:gU ro dp J P nt R c k m x):aJ ro dp J P nt R c k x:=
 λE hP hn hJ a w hr=>wpIn_loop_rounds m (h E hP hn hJ a w hr)
theorem gU.step {P:Program}{nt:Nat}{R:Exit->X->Prop}{c:Code}{k:List It}{m:Nat}{x:X}(hm:P.follows .mixedOrders=true)(hk:clean k=true)
  (h:CI ro dp J P nt R (.code c:: .stop (gU ro dp J P nt R c k m)::k) x):gU ro dp J P nt R c k (m+1) x:=by
 intro E hP hn hJ a w hr;have:=(pA hm h E hP hn hJ).1 (by simpa[clean,eO]using hk) a w hr;simp only[bY]at this;rw[roundsIn_succ];subst hP;refine oI this (λe a' w' hq=>?_);cases e with
 |normal=>
  simp only[bY,Exit.then]at hq⊢;obtain⟨y,hy,hB⟩:=hq;exact hB E rfl hn hJ a' w' hy
 |_=>simpa only[bY,Exit.then]using hq
theorem gU.s {P:Program}{nt:Nat}{R:Exit->X->Prop}{cd:Code}{k:List It}{m:Nat}{x:X}(h:AI.aX ro dp J P nt R 99 400 (.code cd:: .stop (gU ro dp J P nt R cd k m)::k) x)(hm:P.follows .mixedOrders=true:=by decide+kernel)(hk:clean k=true:=by rfl):gU ro dp J P nt R cd k (m+1) x:=
 .step hm hk (.run 99 400 (by exact hk) h)
end
end Go.AI
