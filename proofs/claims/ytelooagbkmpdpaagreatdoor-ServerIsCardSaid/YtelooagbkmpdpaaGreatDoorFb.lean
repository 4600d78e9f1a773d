/-
  A FRAMEWORK OF MY OWN (2)
-/
import Derived.Test.YtelooagbkmpdpaaGreatDoorFa
set_option linter.unusedSimpArgs false
set_option linter.unusedVariables false
set_option maxRecDepth 100000
set_option maxHeartbeats 8000000
namespace Go.AI
open Classical
def BY :TypeDesc->Bool
 |.int _=>true
 |.bool=>true
 |.string=>true
 |_=>false
def AT (P:Program)(T:TypeId):Bool:=
 match P.underlying T with
 |some (.struct fs)=>fs.toList.all λf=>match P.underlying f.type with
  |some d=>BY d&&decide (f.offset<bS P T)
  |none=>false
 |some d=>BY d
 |none=>false
theorem SY {P:Program}{w:World}{t:TypeId}{d:TypeDesc}(h:P.underlying t=some d)(hb:BY d=true){xs:List Value}{off:Nat}(hs:off<xs.length):(part t xs.toArray off).run P w=.ok xs[off] w:=by
 have hg:eV d=false:=by cases d<;>first|rfl|cases hb
 simp[part,sZ h,hg,hs]
theorem run_checkKey {P:Program}{w:World}{T:TypeId}(h:AT P T=true){ka:Bool}{xs:List Value}(hl:xs.length=bS P T)(ha:∀d,P.underlying T=some d->ka=eV d)(hx:ka=false->∃x,xs=[x])(ho:∀x∈xs,x.oneCell'=true)(empty:Bool):
  (Instr.checkKey empty 10000 T (mk ka xs)).run P w=.ok () w:=by
 obtain⟨m,hm⟩:∃m,10000=m+1+1:=⟨9998,rfl⟩;rw[hm];unfold AT at h;have basic:∀(n:Nat) (d:TypeDesc) (t:TypeId) (v:Value),P.underlying t=some d->BY d=true->(Instr.checkKey empty (n+1) t v).run P w=.ok () w:=by
  intro n d t v hu hb;simp only[Instr.checkKey,bV,bQ hu];cases d<;>first| (cases hb;done)|rfl
 split at h
 ·rename_i fs hu;have:=ha _ hu;simp only[eV]at this;subst this;simp only[mk,dY];rw[Instr.checkKey];simp only[bV,bQ hu,cC]
  have key:∀l:List Field,(∀f∈l,f∈fs.toList)->∀b:PUnit,(forIn (m:=Sem) l b λf _=>do
    if f.name≠ "_" then Instr.checkKey empty (m+1) f.type (←part f.type xs.toArray f.offset)
    pure (ForInStep.yield PUnit.unit)).run P w=.ok PUnit.unit w:=by
   intro l;induction l with
   |nil=>intro _ b;simp
   |cons f l ih=>
    intro hm b;have hf:=cS.1 h f (hm f (by simp));split at hf
    ·rename_i d hd;simp at hf;have e1:=SY (w:=w) hd hf.1 (xs:=xs) (off:=f.offset) (by rw[hl];exact hf.2);have e2:=basic m d f.type (xs[f.offset]'(by rw[hl];exact hf.2)) hd hf.1;simp only[List.forIn_cons];by_cases hn:f.name≠ "_"
     ·simp only[hn,ne_eq,not_false_eq_true,dY,bV,e1,cC,e2];exact ih (λg hg=>hm g (by simp[hg])) _
     ·simp only[hn,j5,gW,cC];exact ih (λg hg=>hm g (by simp[hg])) _
    ·cases hf
  have:=key fs.toList (λf hf=>hf) PUnit.unit;simp only[Array.forIn_toList]at this⊢;simp at this⊢;rw[this];rfl
 ·rename_i d hns hu;exact basic (m+1) d T _ hu h
 ·cases h
theorem MY :∀{ks:List CK} {xs ys:List Value},dJ ks xs=true->dJ ks ys=true->fY ks xs ys=some (decide (xs=ys))
 |[],[],[],_,_=>rfl
 |k::ks,x::xs,y::ys,h,g=>by
  simp only[dJ,bN]at h g;have ih:=MY h.2 g.2;have hc:o8 k x y=some (decide (x=y)):=by
   have h1:=h.1;have g1:=g.1;cases k<;>cases x<;>first| (simp[CK.fits]at h1;done)|skip
   ·rename_i kx nx;cases y<;>first| (simp[CK.fits]at g1;done)|skip
    rename_i ky ny;cases kx<;>first| (simp[CK.fits]at h1;done)|skip
    cases ky<;>first| (simp[CK.fits]at g1;done)|skip
    simp[o8]
   ·cases y<;>first| (simp[CK.fits]at g1;done)|skip
    simp[o8]
   ·cases y<;>first| (simp[CK.fits]at g1;done)|skip
    simp[o8]
  simp only[fY,hc,ih,List.cons.injEq];by_cases e1:x=y<;>by_cases e2:xs=ys<;>simp[e1,e2]
 |[],[],_::_,_,h=>by cases h
 |[],_::_,_,h,_=>by cases h
 |_::_,[],_,h,_=>by cases h
 |_::_,_::_,[],_,h=>by cases h
theorem S4 {P:Program}{w:World}{T:TypeId}{d:TypeDesc}{ks:List CK}(hf:jZ P 8 T=some ks)(hu:P.underlying T=some d){xs ys:List Value}(hx:dJ ks xs=true)(hy:dJ ks ys=true):
  (Op.equal T (mk (eV d) xs) (mk (eV d) ys)).run P w=.ok (decide (xs=ys)) w:=
 IB 8 10000 T ks d hf (by omega) hu xs ys _ (MY hx hy) w
noncomputable def e8 (kc:List Value)(keys:Nat->List Value):Nat->Nat->Option Nat
 |0,_=>none
 |n+1,i=>if kc=keys i then some i else e8 kc keys n (i+1)
theorem uU {kc:List Value}{keys:Nat->List Value}:∀{n i j:Nat},e8 kc keys n i=some j->i<=j/\j<i+n/\kc=keys j
 |0,_,_,h=>by cases h
 |n+1,i,j,h=>by
  unfold e8 at h;split at h
  ·rename_i e;cases h;exact⟨aY _,by omega,e⟩
  ·have:=uU h;exact⟨by omega,by omega,this.2.2⟩
theorem DA {kc:List Value}{keys:Nat->List Value}:∀{n i:Nat},e8 kc keys n i=none->∀j,i<=j->j<i+n->kc≠keys j
 |0,_,_,j,h1,h2=>by omega
 |n+1,i,h,j,h1,h2=>by
  unfold e8 at h;split at h
  ·cases h
  ·rename_i e;by_cases hj:j=i
   ·subst hj;exact e
   ·exact DA h j (by omega) (by omega)
theorem M1 {kind:TypeDesc}{k:CK}(hk:(∃i,kind=.int i/\k=.int)\/(kind=.bool/\k=.bool)\/(kind=.string/\k=.str)){x:Value}(hx:k.fits x=true){keys:Nat->List Value}:∀(es:List MapEntry) (i:Nat),
  (∀(j:Nat) e,es[j]? =some e->∃y,keys (i+j)=[y]/\e.key=y/\k.fits y=true)->Instr.findNow kind x es i=some ((e8 [x] keys es.length i).map λj=>(j,(es.getD (j-i) default).val))
 |[],i,_=>rfl
 |e::es,i,h=>by
  obtain⟨y,h1,h2,h3⟩:=h 0 e rfl;rw[uH]at h1;have hs:Instr.sameNow kind x y=some (decide (x=y)):=by
   rcases hk with⟨ik,rfl,rfl⟩|⟨rfl,rfl⟩|⟨rfl,rfl⟩<;>cases x<;>first| (simp[CK.fits]at hx;done)|skip
   ·rename_i kx nx;cases y<;>first| (simp[CK.fits]at h3;done)|skip
    rename_i ky ny;cases kx<;>first| (simp[CK.fits]at hx;done)|skip
    cases ky<;>first| (simp[CK.fits]at h3;done)|skip
    simp[Instr.sameNow];by_cases e:nx=ny<;>simp[e]
   ·rename_i a;cases y<;>first| (simp[CK.fits]at h3;done)|skip
    rename_i b;simp[Instr.sameNow];cases a<;>cases b<;>rfl
   ·rename_i a;cases y<;>first| (simp[CK.fits]at h3;done)|skip
    rename_i b;have hb:=(beq_toListBytes a b).trans (BX a b);have:(Value.string a=Value.string b)=(a=b):=by simp
    simp only[Instr.sameNow,hb,mV,this]
  have ih:=M1 hk hx (keys:=keys) es (i+1) (λj e' hj=>by
   obtain⟨y',a,b,c⟩:=h (j+1) e' (by simpa using hj);exact⟨y',by rw[show i+1+j=i+(j+1) by omega];exact a,b,c⟩)
  unfold Instr.findNow;rw[h2,hs];simp only[jL,e8,h1,List.cons.injEq,and_true];by_cases e':x=y
  ·simp[e']
  ·simp only[e',decide_false,j5,ih];congr 1
   cases hsk:e8 [x] keys es.length (i+1)with
   |none=>rfl
   |some j=>
    have:=(uU hsk).1;simp only[lF,mV,Prod.mk.injEq,true_and];rw[show j-i=(j-(i+1))+1 by omega];simp
theorem M4 {P:Program}{w:World}{T:TypeId}{d:TypeDesc}{ks:List CK}(hf:jZ P 8 T=some ks)(hu:P.underlying T=some d){kc:List Value}(hx:dJ ks kc=true){keys:Nat->List Value}:∀(es:List MapEntry) (i:Nat),
  (∀(j:Nat) e,es[j]? =some e->e.key=mk (eV d) (keys (i+j))/\dJ ks (keys (i+j))=true)->
  (Instr.findAsking T (mk (eV d) kc) es i).run P w=.ok ((e8 kc keys es.length i).map λj=>(j,(es.getD (j-i) default).val)) w
 |[],i,_=>rfl
 |e::es,i,h=>by
  obtain⟨h1,h2⟩:=h 0 e rfl;rw[uH]at h1 h2;have ih:=M4 (w:=w) hf hu hx (keys:=keys) es (i+1) (λj e' hj=>by
   have:=h (j+1) e' (by simpa using hj);rw[show i+1+j=i+(j+1) by omega];exact this)
  unfold Instr.findAsking;simp only[bV,h1,S4 hf hu hx h2,cC,jL,e8];by_cases e':kc=keys i
  ·simp[e']
  ·simp only[e',decide_false,CL,j5,ih];congr 1
   cases hsk:e8 kc keys es.length (i+1)with
   |none=>rfl
   |some j=>
    have:=(uU hsk).1;simp only[lF,mV,Prod.mk.injEq,true_and];rw[show j-i=(j-(i+1))+1 by omega];simp
def pR (P:Program)(T:TypeId)(ka:Bool)(ks:List CK):Prop:=
 jZ P 8 T=some ks/\AT P T=true/\ks.length=bS P T/\(match P.underlying T with
  |some d=>eV d=ka/\(ka=false->(match d,ks with|.int _,[.int]=>true|.bool,[.bool]=>true|.string,[.str]=>true|_,_=>false)=true)
  |none=>False)
theorem run_findKey {P:Program}{w:World}{T:TypeId}{ka:Bool}{ks:List CK}(hK:pR P T ka ks){kc:List Value}(hx:dJ ks kc=true){keys:Nat->List Value}{es:Array MapEntry}
  (h:∀(j:Nat) e,es[j]? =some e->e.key=mk ka (keys j)/\dJ ks (keys j)=true):
  (Instr.findKey T (mk ka kc) es.toList).run P w=.ok ((e8 kc keys es.size 0).map λj=>(j,(es.getD j default).val)) w:=by
 obtain⟨hf,hkt,hl,hd⟩:=hK;split at hd
 case h_2=>exact hd.elim
 rename_i d hu;obtain⟨hg,hone⟩:=hd;have hask:=M4 (w:=w) hf hu hx (keys:=keys) es.toList 0 (λj e hj=>by rw[rK,hg];exact h j e (by simpa using hj));simp at hask;have hask':(Instr.findAsking T (mk ka kc) es.toList).run P w=.ok ((e8 kc keys es.size 0).map λj=>(j,(es.getD j default).val)) w:=by
  simp_all
 unfold Instr.findKey;simp only[bV,bQ hu,cC];cases ka with
 |true=>
  split
  ·rename_i r hr;cases he:es.toList with
   |nil=>
    have hsz:es.size=0:=by simp_all
    rw[he]at hr;simp only[Instr.findNow,mV]at hr;subst hr;simp[hsz,e8]
   |cons e l=>
    rw[he]at hr;unfold Instr.findNow at hr;have:Instr.sameNow d (mk true kc) e.key=none:=by
     cases d<;>first| (simp at hg;done)|rfl
    rw[this]at hr;cases hr
  ·exact hask'
 |false=>
  have hone:=hone rfl;obtain⟨k,hks,hkk⟩:∃k,ks=[k]/\((∃i,d=.int i/\k=.int)\/(d=.bool/\k=.bool)\/(d=.string/\k=.str)):=by
   split at hone
   ·exact⟨_,rfl,.inl ⟨_,rfl,rfl⟩⟩
   ·exact⟨_,rfl,.inr (.inl ⟨rfl,rfl⟩)⟩
   ·exact⟨_,rfl,.inr (.inr ⟨rfl,rfl⟩)⟩
   ·cases hone
  subst hks;have one:∀ys:List Value,dJ [k] ys=true->∃y,ys=[y]/\k.fits y=true:=by
   intro ys hy
   match ys,hy with
   |[y],hy=>exact⟨y,rfl,by simpa[dJ]using hy⟩
   |[],hy=>cases hy
   |_::_::_,hy=>simp[dJ]at hy
  obtain⟨x,rfl,hx1⟩:=one kc hx;have hn:=M1 hkk hx1 (keys:=keys) es.toList 0 (λj e hj=>by
   obtain⟨p,q⟩:=h j e (by simpa using hj);obtain⟨y,hy,hy1⟩:=one _ q;exact⟨y,by rw[rK];exact hy,by rw[p,hy];rfl,hy1⟩)
  have:(mk false [x])=x:=rfl;rw[this,hn];simp only[gW,yF];congr 2
  funext j
  simp[Array.getD];split<;>simp[*]
def oU :AV->Option (List Value)
 |.d (.v x)=>some [x]
 |.agg cs=>go cs
 |_=>none
where go:List AV->Option (List Value)
 |[]=>some []
 |.d (.v x)::r=>match go r with
  |some l=>some (x::l)
  |none=>none
 |_=>none
def nG :AV->Bool
 |.agg _=>true
 |.d (.agg _)=>true
 |_=>false
theorem u7 {σ:Names}{I:Nat->Prop}{w:World}{x:AV}{v:Value}{kc:List Value}(h:oU x=some kc)(hv:RV σ I w x v):v=mk (nG x) kc:=by
 have go:∀(cs:List AV) (xs:List Value) (kc:List Value),oU.go cs=some kc->xs.length=cs.length->(∀(i:Nat) c x,cs[i]? =some c->xs[i]? =some x->RV σ I w c x)->xs=kc:=by
  intro cs;induction cs with
  |nil=>intro xs kc h hl _;cases h;exact gX hl
  |cons c cs ih=>
   intro xs kc h hl hr;cases xs with
   |nil=>cases hl
   |cons x xs=>
    unfold oU.go at h;split at h
    ·simp_all
    ·rename_i y r e;cases e;split at h
     ·rename_i l hl';cases h;rw[ih xs l hl' (by simpa using hl) (λi c x h1 h2=>hr (i+1) c x (by simpa using h1) (by simpa using h2))];rw[cH (hr 0 _ x rfl rfl)]
     ·cases h
    ·cases h
 unfold oU at h;split at h
 ·cases h;rw[cH hv];rfl
 ·rename_i cs;cases hv with
  |agg hl hr=>rw[go cs _ kc h hl hr];rfl
 ·cases h
def vA (va:Bool)(d:List D):AV:=if va then .agg (d.map .d)else .d (d.headD (.v undef))
def wW (va:Bool)(zero:List D):Option (List D)->AV
 |some d=>vA va d
 |none=>vA va zero
theorem yA {σ:Names}{I:Nat->Prop}{w:World}{va:Bool}{d:List D}{xs:List Value}(hl:d.length=xs.length)(h:∀(j:Nat) c x,d[j]? =some c->xs[j]? =some x->RD I w c x):RV σ I w (vA va d) (mk va xs):=by
 cases va with
 |true=>
  refine .agg (by simpa using hl.symm) (λi c x h1 h2=>?_);simp at h1;obtain⟨y,hy,rfl⟩:=h1;exact .d (h i y x hy h2)
 |false=>
  match d,xs,hl with
  |[],[],_=>exact .d (.v _)
  |c::d,x::xs,_=>exact .d (h 0 c x rfl rfl)
def AB (mem:Mem):AV->Option (Option (Bool×List CK×Bool×(List Value->Option (List D)))×List Nat)
 |.d (.v (.map none))=>some (none,[])
 |.d (.mp ka ks va look)=>some (some (ka,ks,va,look),[])
 |.own b=>match mem b with
  |some (.map ka ks va look)=>some (some (ka,ks,va,look),[b])
  |_=>none
 |_=>none
def B9 (I:Nat->Prop)(w:World)(ka:Bool)(ks:List CK)(va:Bool)(look:List Value->Option (List D))(v:Value):Prop:=
 ∃(n clock:Nat) (es:Array MapEntry) (keys vals:Nat->List Value),v=.map (some n)/\w.heap[n]? =some (.map es clock)/\
  (∀(i:Nat) e,es[i]? =some e->e.key=mk ka (keys i)/\e.val=mk va (vals i)/\dJ ks (keys i)=true/\∃d,look (keys i)=some d/\d.length=(vals i).length)/\
  (∀(i j:Nat),i<es.size->j<es.size->keys i=keys j->i=j)/\(∀k d,look k=some d->∃i,i<es.size/\keys i=k)/\
  (∀(i:Nat) d (j:Nat) c x,i<es.size->look (keys i)=some d->d[j]? =some c->(vals i)[j]? =some x->RD I w c x)
def O8 (I:Nat->Prop)(w:World)(v:Value):Option (Bool×List CK×Bool×(List Value->Option (List D)))->Prop
 |none=>v=.map none
 |some (ka,ks,va,look)=>B9 I w ka ks va look v
theorem K2 {σ:Names}{I:Nat->Prop}{w:World}{mem mr:Mem}{x:AV}{v:Value}{q}{rd:List Nat}(h:AB mem x=some (q,rd))(hv:RV σ I w x v)(hm:RM σ I w mr)(hr:∀b∈rd,∀k,mem b=some k->mr b=some k):O8 I w v q:=by
 unfold AB at h;split at h
 ·cases h;exact cH hv
 ·cases h;cases hv with
  |d hv=>
   cases hv with
   |mp keys vals hI hb hk hu hl hv=>exact⟨_,_,_,keys,vals,rfl,hb,hk,hu,hl,hv⟩
 ·rename_i b;split at h
  ·rename_i ka ks va look hb;cases h;obtain⟨y,hy,hrb,_⟩:=hm.aS b _ (hr b (by simp) _ hb);cases hv with
   |own h' _=>
    rw[hy]at h';cases h';cases hrb with
    |map keys vals hw _ hk hu hl hv=>exact⟨_,_,_,keys,vals,rfl,hw,hk,hu,hl,hv⟩
  ·cases h
 ·cases h
theorem B9.e8 {I:Nat->Prop}{w:World}{ka va:Bool}{ks:List CK}{look:List Value->Option (List D)}{es:Array MapEntry}{keys vals:Nat->List Value}
  (hk:∀(i:Nat) e,es[i]? =some e->e.key=mk ka (keys i)/\e.val=mk va (vals i)/\dJ ks (keys i)=true/\∃d,look (keys i)=some d/\d.length=(vals i).length)
  (hl:∀k d,look k=some d->∃i,i<es.size/\keys i=k) (kc:List Value):
  (∃i,AI.e8 kc keys es.size 0=some i/\i<es.size/\keys i=kc/\∃d,look kc=some d/\d.length=(vals i).length)\/(AI.e8 kc keys es.size 0=none/\look kc=none):=by
 cases hs:AI.e8 kc keys es.size 0 with
 |some i=>
  have:=uU hs;simp_all
 |none=>
  refine .inr ⟨rfl,?_⟩;cases hq:look kc with
  |none=>rfl
  |some d=>
   obtain⟨i,hi,he⟩:=hl kc d hq;exact absurd he.symm (DA hs i (by omega) (by omega))
theorem KO {ka:Bool}{ks:List CK}{kc:List Value}(h:dJ ks kc=true):kc.length=ks.length:=by
 induction ks generalizing kc with
 |nil=>cases kc with
  |nil=>rfl
  |cons _ _=>cases h
 |cons k ks ih=>cases kc with
  |nil=>cases h
  |cons x xs=>simp only[dJ,bN]at h;simp[ih h.2]
theorem Ad {ks:List CK}{kc:List Value}(h:dJ ks kc=true):∀x∈kc,x.oneCell'=true:=by
 induction ks generalizing kc with
 |nil=>cases kc with
  |nil=>intro x hx;cases hx
  |cons _ _=>cases h
 |cons k ks ih=>cases kc with
  |nil=>cases h
  |cons y ys=>
   simp only[dJ,bN]at h;intro x hx;rcases iF.1 hx with rfl|hx
   ·have:=h.1;cases k<;>cases x<;>first|rfl| (simp[CK.fits]at this;done)
   ·grind
theorem uX {P:Program}{w:World}{T:TypeId}{ka:Bool}{ks:List CK}(hK:pR P T ka ks){kc:List Value}(hx:dJ ks kc=true)(empty:Bool):(Instr.checkKey empty 10000 T (mk ka kc)).run P w=.ok () w:=by
 obtain⟨hf,hkt,hl,hd⟩:=hK;split at hd
 case h_2=>exact hd.elim
 rename_i d hu;refine run_checkKey hkt (by rw[KO (ka:=ka) hx,hl]) (λd' hd'=>?_) (λh=>?_) (Ad hx) empty
 ·simp_all
 ·have h1:=hd.2 h;have h2:=KO (ka:=ka) hx;have:ks.length=1:=by
   split at h1<;>first|rfl|cases h1
  rw[this]at h2
  match kc,h2 with
  |[x],_=>exact⟨x,rfl⟩
def AE (te:TI)(ka:Bool)(ks:List CK)(mem:Mem)(x key:AV)(ok:Bool):Option (Prop×aG):=
 match AB mem x,oU key with
 |some (q,rd),some kc=>
  let zero:=te.zero.map D.v
  match q with
  |none=>if te.za=te.agg/\nG key=ka then some (dJ ks kc=true,⟨if ok then .bC [vA te.agg zero,.d (.v (.bool false))]else vA te.agg zero,rd,[]⟩)else none
  |some (ka',ks',va,look)=>if te.za=te.agg/\va=te.agg/\ka'=ka/\ks'=ks/\nG key=ka then
    some (dJ ks kc=true,⟨if ok then .bC [wW va zero (look kc),.d (.v (.bool (look kc).isSome))]else wW va zero (look kc),rd,[]⟩)else none
 |_,_=>none
theorem wT {P:Program}{T:TypeId}{ti:TI}(hT:aH P T=some ti){K E:TypeId}(hk:ti.k=.map K E):P.underlying T=some (.map K E):=by
 obtain⟨i,d,z,hi,hd,hz,rfl⟩:=fG hT;rw[hd];simp only at hk;cases d<;>simp[eC]at hk;obtain⟨rfl,rfl⟩:=hk;rfl
theorem v8 {P:Program}{w:World}{E:TypeId}{te:TI}(hE:aH P E=some te)(hza:te.za=te.agg):(zeroValue E).run P w=.ok (mk te.agg te.zero) w:=by
 obtain⟨i,d,z,hi,hd,hz,hte⟩:=fG hE;have h1:te.za=r7 z:=by rw[hte]
 have h2:te.zero=z.cells.toList:=by rw[hte]
 have:z=mk te.agg te.zero:=by
  rw[<-hza,h1,h2];cases z<;>simp[r7,mk,Value.cells]
 rw[<-this];simp[zeroValue,typeInfo,hi,hz]
theorem VZ {P:Program}{o:Oper}{T:TypeId}{x key:Operand}{ok:Bool}(ho:o.op=.lookup T x key ok)(tm:Nat->AV)(mem:Mem)(nm:Nat){ti te:TI}{K E:TypeId}(hT:aH P T=some ti)(hk:ti.k=.map K E)(hE:aH P E=some te){ka:Bool}{ks:List CK}(hK:pR P K ka ks)
  {sc:Prop} {e:aG} (he:AE te ka ks mem (ev tm x) (ev tm key) ok=some (sc,e)) (hsc:sc):aO P o tm (e.mr mem) nm e.res (e.mw mem):=by
 unfold AE at he;split at he
 case h_2=>cases he
 rename_i q rd kc hq hkc;have hu:=wT hT hk;have tupR:∀{σ:Names} {I:Nat->Prop} {w:World} {r:AV} {v:Value} {b:Bool},RV σ I w r v->RV σ I w (.bC [r,.d (.v (.bool b))]) (.tuple #[v,.bool b]):=by
  intro σ I w r v b h;refine .bC (xs:=[v,.bool b]) rfl (λi c y h1 h2=>?_)
  match i,h1,h2 with
  |0,h1,h2=>simp at h1 h2;subst h1;subst h2;exact h
  |1,h1,h2=>simp at h1 h2;subst h1;subst h2;exact .d (.v _)
  |i+2,h1,h2=>simp at h1
 have hz:∀{σ:Names} {I:Nat->Prop} {w:World},RV σ I w (vA te.agg (te.zero.map D.v)) (mk te.agg te.zero):=by
  refine yA (by simp) (λj c x h1 h2=>?_);rw[fN,h2]at h1;cases h1;exact .v _
 simp only at he;split at he
 ·split at he
  ·rename_i hc;cases he;rw[aG.mO];refine aO.pure λa w σ I h hm=>?_;have hvk:=u7 hkc (bO (σ:=σ) (I:=I) (w:=w) (tm:=tm) (a:=a) (x:=key) λs e=>h s (by simp[ho,Op.operands,e]));have hx:=K2 hq (bO (σ:=σ) (I:=I) (w:=w) (tm:=tm) (a:=a) (x:=x) λs e=>h s (by simp[ho,Op.operands,e])) hm (λb hb k hk=>aG.eZ hk (.inl hb));simp only[O8]at hx;rw[hc.2]at hvk;have hck:=uX (w:=w) hK hsc;have hfk:=run_findKey (w:=w) hK hsc (keys:=λ_=>[]) (es:=#[]) (λj e h=>by simp at h);have hzr:=v8 (w:=w) hE hc.1;have hrun:(Instr.lookup T (a.eval x) (a.eval key) ok).run P w=.ok (if ok then .tuple #[mk te.agg te.zero,.bool false]else mk te.agg te.zero) w:=by
    rw[hx,hvk];simp only[Instr.lookup,bV,bQ hu,cC,pure_bind,hck,hfk];simp[e8,hzr]
   refine⟨_,by simp only[execOp,ho,bV,hrun,cC];rfl,?_⟩;cases ok with
   |true=>exact tupR hz
   |false=>exact hz
  ·cases he
 ·rename_i ka' ks' va look;split at he
  ·rename_i hc;obtain⟨c1,rfl,rfl,rfl,c5⟩:=hc;cases he;rw[aG.mO];refine aO.pure λa w σ I h hm=>?_;have hvk:=u7 hkc (bO (σ:=σ) (I:=I) (w:=w) (tm:=tm) (a:=a) (x:=key) λs e=>h s (by simp[ho,Op.operands,e]));have hx:=K2 hq (bO (σ:=σ) (I:=I) (w:=w) (tm:=tm) (a:=a) (x:=x) λs e=>h s (by simp[ho,Op.operands,e])) hm (λb hb k hk=>aG.eZ hk (.inl hb));obtain⟨n,clock,es,keys,vals,hxv,hw,g1,g2,g3,g4⟩:=hx;rw[c5]at hvk;have hck:=λem=>uX (w:=w) hK hsc em;have hfk:=run_findKey (w:=w) hK hsc (keys:=keys) (es:=es) (λj e h=>⟨(g1 j e h).1,(g1 j e h).2.2.1⟩);have hzr:=v8 (w:=w) hE c1;have hg:(getObj n).run P w=.ok (.map es clock) w:=by simp[getObj,Sem.run,hw]
   rcases B9.e8 (I:=I) (w:=w) g1 g3 kc with⟨i,s1,s2,s3,d,s4,s5⟩|⟨s1,s2⟩
   ·have hee:es[i]? =some es[i]:=iV s2;have hval:(es.getD i default).val=mk te.agg (vals i):=by
     rw[show es.getD i default=es[i] by simp[Array.getD,s2]];exact(g1 i _ hee).2.1
    have hrun:(Instr.lookup T (a.eval x) (a.eval key) ok).run P w=.ok (if ok then .tuple #[mk te.agg (vals i),.bool true]else mk te.agg (vals i)) w:=by
     rw[hxv,hvk];simp only[Instr.lookup,bV,bQ hu,cC,hg,gW,hck,hfk,s1,lF,hval]
    refine⟨_,by simp only[execOp,ho,bV,hrun,cC];rfl,?_⟩;have hres:RV σ I w (vA te.agg d) (mk te.agg (vals i)):=yA s5 (λj c x h1 h2=>g4 i d j c x s2 (by rw[s3];exact s4) h1 h2);simp only[s4,wW,Option.isSome_some];cases ok with
    |true=>exact tupR hres
    |false=>exact hres
   ·have hrun:(Instr.lookup T (a.eval x) (a.eval key) ok).run P w=.ok (if ok then .tuple #[mk te.agg te.zero,.bool false]else mk te.agg te.zero) w:=by
     rw[hxv,hvk];simp only[Instr.lookup,bV,bQ hu,cC,hg,gW,hck,hfk,s1,Option.map_none,hzr]
    refine⟨_,by simp only[execOp,ho,bV,hrun,cC];rfl,?_⟩;simp only[s2,wW,Option.isSome_none];cases ok with
    |true=>exact tupR hz
    |false=>exact hz
  ·cases he
noncomputable def iW (look:List Value->Option (List D))(kc:List Value)(d:List D):List Value->Option (List D):=λk=>if k=kc then some d else look k
noncomputable def wE (te:TI)(ka:Bool)(ks:List CK)(mem:Mem)(m key x:AV):Option (Prop×aG):=
 match m,oU key,(cellsOf x).bind kM with
 |.own b,some kc,some ds=>match mem b with
  |some (.map ka' ks' va look)=>if ka'=ka/\ks'=ks/\nG key=ka/\nG x=va then some (dJ ks kc=true,⟨.d (.v undef),[],[(b,some (.map ka ks va (iW look kc ds)))]⟩)else none
  |_=>none
 |_,_,_=>none
theorem H0 {k:CK}{x:Value}(h:k.fits x=true)(n:Nat):Instr.sameBits n x x=true:=by
 cases k<;>cases x<;>first| (simp[CK.fits]at h;done)|skip
 ·cases n<;>simp[Instr.sameBits]
 ·cases n<;>simp[Instr.sameBits]
 ·rename_i s;have:(s==s)=true:=by rw[beq_toListBytes,BX];simp
  cases n<;>simp[Instr.sameBits,this]
theorem H6 {ks:List CK}{kc:List Value}(h:dJ ks kc=true){ka:Bool}(h1:ka=false->∃k,ks=[k])(n:Nat):Instr.sameBits (n+1) (mk ka kc) (mk ka kc)=true:=by
 have key:∀(ks:List CK) (kc:List Value),dJ ks kc=true->(kc.zip kc).all (λ(x,y)=>Instr.sameBits n x y)=true:=by
  intro ks;induction ks with
  |nil=>intro kc h;cases kc with
   |nil=>rfl
   |cons _ _=>cases h
  |cons k ks ih=>intro kc h;cases kc with
   |nil=>cases h
   |cons x xs=>
    simp only[dJ,bN]at h;simp only[List.zip_cons_cons,oL,bN];exact⟨H0 h.1 n,ih xs h.2⟩
 cases ka with
 |true=>
  simp only[mk,dY,Instr.sameBits];simpa using key ks kc h
 |false=>
  obtain⟨k,rfl⟩:=h1 rfl
  match kc,h with
  |[x],h=>exact H0 (k:=k) (x:=x) (by simpa[dJ]using h) (n+1)
  |[],h=>cases h
  |_::_::_,h=>simp[dJ]at h
theorem LQ {P:Program}{T:TypeId}{ka:Bool}{ks:List CK}(h:pR P T ka ks):ka=false->∃k,ks=[k]:=by
 obtain⟨_,_,_,hd⟩:=h
 grind
theorem yS (look:List Value->Option (List D))(kc:List Value)(d:List D):iW look kc d kc=some d:=by simp[iW]
theorem uO {look:List Value->Option (List D)}{kc k:List Value}{d:List D}(h:k≠kc):iW look kc d k=look k:=by simp[iW,h]
theorem GC {σ:Names}{I:Nat->Prop}{w w':World}{ka va:Bool}{ks:List CK}{look:List Value->Option (List D)}{n clock:Nat}{es:Array MapEntry}{keys vals:Nat->List Value}
  (g0:∀(i:Nat) e,es[i]? =some e->e.born<clock) (g1:∀(i:Nat) e,es[i]? =some e->e.key=mk ka (keys i)/\e.val=mk va (vals i)/\dJ ks (keys i)=true/\∃d,look (keys i)=some d/\d.length=(vals i).length)
  (g2:∀(i j:Nat),i<es.size->j<es.size->keys i=keys j->i=j) (g3:∀k d,look k=some d->∃i,i<es.size/\keys i=k)
  (g4:∀(i:Nat) d (j:Nat) c x,i<es.size->look (keys i)=some d->d[j]? =some c->(vals i)[j]? =some x->RD I w' c x)
  {kc:List Value} (hf:dJ ks kc=true) {ds:List D} {xs:List Value} (hl:ds.length=xs.length) (hr:∀(j:Nat) c x,ds[j]? =some c->xs[j]? =some x->RD I w' c x):
  (∀i,e8 kc keys es.size 0=some i->w'.heap[n]? =some (.map (es.modify i λe=>{e with key:=mk ka kc,val:=mk va xs}) clock)->RB σ I w' (.map ka ks va (iW look kc ds)) (.map (some n)))/\
  (e8 kc keys es.size 0=none->w'.heap[n]? =some (.map (es.push {key:=mk ka kc,val:=mk va xs,born:=clock}) (clock+1))->RB σ I w' (.map ka ks va (iW look kc ds)) (.map (some n))):=by
 constructor
 ·intro i hs hw;obtain⟨_,hi,hki⟩:=uU hs;have hi:i<es.size:=by omega
  refine .map keys (λj=>if j=i then xs else vals j) hw (λj e hj=>by
   rw[rN]at hj;split at hj
   ·grind
   ·exact g0 j e hj) (λj e hj=>?_) (λa b ha hb=>?_) (λk d hk=>?_) (λj d q c x hj hlk hc hx=>?_)
  ·rw[rN]at hj;split at hj
   ·rename_i e';subst e';have hee:es[i]? =some es[i]:=iV hi;rw[hee]at hj;simp at hj;subst hj;refine⟨by rw[hki],by simp,by rw[<-hki];exact hf,ds,?_,by simp[hl]⟩;rw[<-hki];exact yS _ _ _
   ·rename_i e';obtain⟨a1,a2,a3,d,a4,a5⟩:=g1 j e hj;have hjlt:=(e7.1 hj).1;have hne:keys j≠kc:=λh=>e' (g2 i j hi hjlt (by rw[h,hki]));refine⟨a1,by simp[mW e',a2],a3,d,?_,by simp[mW e',a5]⟩;rw[uO hne];exact a4
  ·simp at ha hb;exact g2 a b ha hb
  ·simp;by_cases hkk:k=kc
   ·subst hkk;exact⟨i,hi,hki.symm⟩
   ·rw[uO hkk]at hk;exact g3 k d hk
  ·simp at hj;by_cases e':j=i
   ·subst e';rw[<-hki,yS]at hlk;cases hlk;simp at hx;exact hr q c x hc hx
   ·simp only[e']at hx;have hne:keys j≠kc:=λh=>e' (g2 j i hj hi (by rw[h,hki]));rw[uO hne]at hlk;exact g4 j d q c x hj hlk hc hx
 ·intro hs hw;have hno:∀j,j<es.size->keys j≠kc:=λj hj h=>DA hs j (by omega) (by omega) h.symm;refine .map (λj=>if j=es.size then kc else keys j) (λj=>if j=es.size then xs else vals j) hw (λj e hj=>by
   rw[v7]at hj;split at hj
   ·cases hj;exact Nat.lt_succ_self _
   ·exact Nat.lt_succ_of_lt (g0 j e hj)) (λj e hj=>?_) (λa b ha hb=>?_) (λk d hk=>?_) (λj d q c x hj hlk hc hx=>?_)
  ·rw[v7]at hj;split at hj
   ·rename_i e';cases hj;subst e';simp only[dY];exact⟨trivial,trivial,hf,ds,yS _ _ _,hl⟩
   ·rename_i e';obtain⟨a1,a2,a3,d,a4,a5⟩:=g1 j e hj;have hjlt:=(e7.1 hj).1;simp only[e',j5];refine⟨a1,a2,a3,d,?_,a5⟩;rw[uO (hno j hjlt)];exact a4
  ·intro h;simp at ha hb;by_cases ea:a=es.size<;>by_cases eb:b=es.size
   ·omega
   ·simp only[ea,eb]at h;exact absurd h.symm (hno b (by omega))
   ·simp only[ea,eb]at h;exact absurd h (hno a (by omega))
   ·simp only[ea,eb,j5]at h;exact g2 a b (by omega) (by omega) h
  ·simp only[Array.size_push];by_cases hkk:k=kc
   ·exact⟨es.size,by omega,by simp[hkk]⟩
   ·rw[uO hkk]at hk;obtain⟨i,hi,he⟩:=g3 k d hk;exact⟨i,by omega,by simp[show i≠es.size by omega,he]⟩
  ·simp only[Array.size_push]at hj;by_cases e':j=es.size
   ·simp only[e',dY]at hlk hx;rw[yS]at hlk;cases hlk;exact hr q c x hc hx
   ·simp only[e',j5]at hlk hx;rw[uO (hno j (by omega))]at hlk;exact g4 j d q c x (by omega) hlk hc hx
theorem val_mk {σ:Names}{I:Nat->Prop}{w:World}{x:AV}{v:Value}{cs:List AV}(hv:RV σ I w x v)(hc:cellsOf x=some cs):v=mk (nG x) v.cells.toList:=by
 have one:∀{v:Value},v.oneCell'=true->v=mk false v.cells.toList:=λh=>by rw[N4 h];rfl
 cases hv with
 |agg hl hr=>simp[nG,mk,Value.cells]
 |d h=>
  cases h with
  |agg hl hr=>simp[nG,mk,Value.cells]
  |v y=>
   simp only[cellsOf]at hc;split at hc
   ·exact one ‹_›
   ·cases hc
  |_=>exact one rfl
 |any y=>cases hc
 |bC _ _=>cases hc
 |own _ h1=>exact one h1
 |sl _ hs=>cases hs<;>exact one rfl
 |_=>exact one rfl
theorem JW {P:Program}{o:Oper}{T:TypeId}{m key x:Operand}(ho:o.op=.mapUpdate T m key x\/o.op=.insert T m key x)(tm:Nat->AV)(mem:Mem)(nm:Nat){ti te:TI}{K E:TypeId}(hT:aH P T=some ti)(hk:ti.k=.map K E){ka:Bool}{ks:List CK}(hK:pR P K ka ks)
  {sc:Prop} {e:aG} (he:wE te ka ks mem (ev tm m) (ev tm key) (ev tm x)=some (sc,e)) (hsc:sc):aO P o tm (e.mr mem) nm e.res (e.mw mem):=by
 unfold wE at he;split at he
 case h_2=>cases he
 rename_i b kc ds hm0 hkc hds;split at he
 case h_2=>cases he
 rename_i ka' ks' va look hb;split at he
 case isFalse=>cases he
 rename_i hc;obtain⟨rfl,rfl,c3,c4⟩:=hc;cases he;have hu:=wT hT hk;refine aO.skip λa w σ I h1 h h3 _=>?_;have hops:o.op.operands=#[m,key,x]:=by rcases ho with ho|ho<;>rw[ho]<;>rfl
 have hvk:=u7 hkc (bO (σ:=σ) (I:=I) (w:=w) (tm:=tm) (a:=a) (x:=key) λs e=>h s (by simp[hops,e]));rw[c3]at hvk;have hvm:=bO (σ:=σ) (I:=I) (w:=w) (tm:=tm) (a:=a) (x:=m) λs e=>h s (by simp[hops,e]);have hvx:=bO (σ:=σ) (I:=I) (w:=w) (tm:=tm) (a:=a) (x:=x) λs e=>h s (by simp[hops,e]);rw[hm0]at hvm;obtain⟨cl,hcl,hds'⟩:=Option.bind_eq_some_iff.1 hds;obtain⟨v1,v2⟩:=vO hvx hcl;have hcd:=mZ hds';subst hcd;have hvmk:a.eval x=mk va (a.eval x).cells.toList:=by rw[<-c4];exact val_mk hvx hcl
 obtain⟨y,hy,hrb,_⟩:=h3.aS b _ (aG.eZ hb (.inr (by simp[wrote])));generalize hev:a.eval m=u at hvm;cases hvm with
 |own h' _=>
  rw[hy]at h';cases h';cases hrb with
  | @map _ _ _ _ n clock es keys vals hw g0 g1 g2 g3 g4=>
    have hck:=uX (w:=w) hK hsc false;have hfk:=run_findKey (w:=w) hK hsc (keys:=keys) (es:=es) (λj e h=>⟨(g1 j e h).1,(g1 j e h).2.2.1⟩);have hg:(getObj n).run P w=.ok (.map es clock) w:=by simp[getObj,Sem.run,hw]
    have hnI:¬I n:=by
     obtain⟨y',hy',_,hyn⟩:=h3.aS b _ (aG.eZ hb (.inr (by simp[wrote])));rw[hy]at hy';cases hy';exact(hyn n rfl).2
    have fin:∀ob:Obj,(Instr.mapUpdate T (a.eval m) (a.eval key) (a.eval x)).run P w=.ok () {w with heap:=w.heap.setIfInBounds n ob}->
      RB σ I {w with heap:=w.heap.setIfInBounds n ob} (.map ka' ks' va (iW look kc ds)) (.map (some n))->
      ∃w' σ' I',(execOp a.eval o).run P w=.ok .skip w'/\cB σ I w ((aG.mk (.d (.v undef)) [] [(b,some (.map ka' ks' va (iW look kc ds)))]).mr mem) nm σ' I' w' ((aG.mk (.d (.v undef)) [] [(b,some (.map ka' ks' va (iW look kc ds)))]).mw mem):=by
     intro ob hrun hk;refine⟨_,σ,I,by rcases ho with ho|ho<;>simp only[execOp,ho,bV,hrun]<;>rfl,?_⟩;refine cB.write (w':={w with heap:=w.heap.setIfInBounds n ob}) (b:=b) h1 h3 (aG.eZ hb (.inr (by simp[wrote]))) hy rfl (λj hj=>?_) (by simp) rfl rfl ⟨rfl,aY _⟩ hk qL;simp[lH (mW hj)]
    have hlt:=(e7.1 hw).1;have g4':∀ob:Obj,∀(i:Nat) d (j:Nat) c x,i<es.size->look (keys i)=some d->d[j]? =some c->(vals i)[j]? =some x->RD I {w with heap:=w.heap.setIfInBounds n ob} c x:=λob i d j c x q1 q2 q3 q4=>
     (g4 i d j c x q1 q2 q3 q4).mono (λk hk=>by simp[lH (show n≠k from λe=>hnI (e▸hk))]) (λ_ h=>h)
    have hr':∀ob:Obj,∀(j:Nat) c x',ds[j]? =some c->(a.eval x).cells.toList[j]? =some x'->RD I {w with heap:=w.heap.setIfInBounds n ob} c x':=λob j c x' q1 q2=>by
     have:=v2 j (.d c) x' (by simp[q1]) (by simpa using q2);exact(yC this).mono (λk hk=>by simp[lH (show n≠k from λe=>hnI (e▸hk))]) (λ_ h=>h)
    have hll:ds.length=(a.eval x).cells.toList.length:=by simpa using v1.symm
    cases hs:e8 kc keys es.size 0 with
    |some i=>
     obtain⟨_,hi,hki⟩:=uU hs;have hi:i<es.size:=by omega
     have hek:es[i].key=mk ka' kc:=by rw[hki];exact(g1 i _ (iV hi)).1
     refine fin (.map (es.modify i λe=>{e with key:=mk ka' kc,val:=mk va (a.eval x).cells.toList}) clock) ?_ ((GC (w:=w) (n:=n) (clock:=clock) g0 g1 g2 g3 (g4' _) hsc hll (hr' _)).1 i hs (by simp[hlt]));rw[hev,hvk]
     conv=>lhs;rw[hvmk]
     have hsb:=H6 hsc (LQ hK) 9999;simp only[Instr.mapUpdate,bV,bQ hu,cC,hg,hck,hfk,hs,lF,iV hi,CB,hek,Instr.keyThatStays,hsb,dY,gW];simp[setObj,Sem.run,hw]
    |none=>
     refine fin (.map (es.push {key:=mk ka' kc,val:=mk va (a.eval x).cells.toList,born:=clock}) (clock+1)) ?_ ((GC (w:=w) (n:=n) (clock:=clock) g0 g1 g2 g3 (g4' _) hsc hll (hr' _)).2 hs (by simp[hlt]));rw[hev,hvk]
     conv=>lhs;rw[hvmk]
     simp only[Instr.mapUpdate,bV,bQ hu,cC,hg,hck,hfk,hs,Option.map_none];simp[setObj,Sem.run,hw]
end Go.AI
namespace Go.AI
def Dv (c:UInt8):List D:=[.v (.int .u8 c.toNat)]
def CV :List D->UInt8
 |[.v (.int .u8 n)]=>UInt8.ofNat n.toNat
 |_=>0
def vC :List D->Bool
 |[.v (.int .u8 _)]=>true
 |_=>false
def Du (es:List (List D)):Prop:=∀e∈es,vC e=true
def wF (es:List (List D)):List UInt8:=es.map CV
@[simp] theorem isB1_byteC (c:UInt8):vC (Dv c)=true:=rfl
def xR (ks kd:K)(eb:Option K)(mem:Mem)(x:AV):Option (Prop×aG):=
 match kd,x with
 |.int k,.d (.v (.int _ n))=>some (True,⟨.d (.v (.int k (k.wrap n))),[],[]⟩)
 |.str,.d (.v (.string s))=>some (True,⟨.d (.v (.string s)),[],[]⟩)
 |.str,x=>match ks,eb,uQ 1 mem x with
  |.dA _,some (.int .u8),some (es,rd)=>some (Du es,⟨.d (.v (.string ⟨(wF es).toArray⟩)),rd,[]⟩)
  |_,_,_=>none
 |_,_=>none
theorem LZ {P:Program}{T:TypeId}{ti:TI}(hT:aH P T=some ti){k:IntKind}(hk:ti.k=.int k):P.underlying T=some (.int k):=by
 obtain⟨i,d,z,hi,hd,hz,rfl⟩:=fG hT;rw[hd];simp only at hk;cases d<;>simp[eC]at hk<;>simp[hk]
def nB :List D->Int
 |[.v (.int .u8 n)]=>n
 |_=>0
theorem P3 (e:List D):CV e=UInt8.ofNat (nB e).toNat:=by
 unfold CV nB;split<;>simp_all
theorem X2 {w:World}{I:Nat->Prop}{es:List (List D)}{v:Value}{a:Option Addr}{c:Nat}{val:Nat->Nat->Value}(h:iT I w 1 es v a c val)(hb:∀e∈es,vC e=true):
  gD 1 es.length val=es.map λe=>Value.int .u8 (nB e):=by
 apply yJ;intro q;have hlen:=n5 1 es.length val;rcases pC q es.length with hq|hq
 ·have h1:=MV (sz:=1) (n:=es.length) (val:=val) (i:=q) (j:=0) hq (by omega);rw[Nat.mul_one,uH]at h1;have he:es[q]? =some es[q]:=bL hq;have hb1:=hb _ (mD hq);rw[h1,fN,he];generalize es[q]=E at hb1 he;unfold vC at hb1;split at hb1
  ·rename_i n;have hr:=h.rd q _ 0 _ he rfl;generalize hv:val q 0=vv at hr;cases hr;rfl
  ·cases hb1
 ·simp_all
theorem H9 {P:Program}{w:World}:∀(l:List (List D)) (s:ByteArray),(forIn (m:=Sem) (l.map λe=>Value.int .u8 (nB e)) s λc r=>
  match c with
  |.int .u8 n=>pure (ForInStep.yield (r.push (UInt8.ofNat n.toNat)))
  |_=>do
   stuck (α:=PUnit) "bytesToString: byte expected"
   pure (ForInStep.yield r)).run P w=.ok ⟨s.data++(wF l).toArray⟩ w
 |[],s=>by simp[wF]
 |e::l,s=>by
  simp only[fM,List.forIn_cons,bV,gW,cC,H9 l];congr 2
  apply Array.ext';simp[wF,P3]
theorem run_bytesToString {P:Program}{w:World}{I:Nat->Prop}{es:List (List D)}{v:Value}{a:Option Addr}{c:Nat}{val:Nat->Nat->Value}(h:iT I w 1 es v a c val)(hb:∀e∈es,vC e=true):
  (Conv.bytesToString v).run P w=.ok (.string ⟨(wF es).toArray⟩) w:=by
 have hv:=h.v;subst hv;cases a with
 |none=>
  obtain⟨rfl,rfl⟩:=h.zQ rfl;simp;rfl
 |some ad=>
  have hfl:=h.flat rfl;have hlen:=n5 1 es.length val;rw[Nat.mul_one]at hlen;have hload:(loadCells ad es.length).run P w=.ok (gD 1 es.length val).toArray w:=by
   have:=run_loadCells_list (P:=P) w ad _ hfl
   rwa[hlen]at this
  rw[X2 h hb]at hload;have hp:=H9 (P:=P) (w:=w) es ByteArray.empty;simp only[Conv.bytesToString,hload,cC];simp_all
theorem WC {P:Program}{o:Oper}{S T:TypeId}{x:Operand}(ho:o.op=.convert S T x)(tm:Nat->AV)(mem:Mem)(nm:Nat){ts td:TI}(hS:aH P S=some ts)(hT:aH P T=some td){eb:Option K}
  (hE:∀E,ts.k=.dA E->∀k,eb=some k->∃te,aH P E=some te/\te.k=k/\te.sz=1) {sc:Prop} {e:aG} (he:xR ts.k td.k eb mem (ev tm x)=some (sc,e)) (hsc:sc):aO P o tm (e.mr mem) nm e.res (e.mw mem):=by
 have hwr:e.wr=[]:=by
  unfold xR at he
  grind
 have hmw:e.mw mem=e.mr mem:=by
  obtain⟨r,rd,wr⟩:=e;simp only at hwr;subst hwr;exact aG.mO _ _ _
 rw[hmw];obtain⟨ds,hds⟩:∃d,P.underlying S=some d:=by obtain⟨i,d,z,hi,hd,hz,rfl⟩:=fG hS;exact⟨d,hd⟩
 refine aO.pure λa w σ I h hm=>?_;have hv:=bO (σ:=σ) (I:=I) (w:=w) (tm:=tm) (a:=a) (x:=x) λs e=>h s (by simp[ho,Op.operands,e]);have fin:∀v,(convert S T (a.eval x)).run P w=.ok v w->RV σ I w e.res v->∃v,(execOp a.eval o).run P w=.ok (.value v) w/\RV σ I w e.res v:=
  λv h1 h2=>⟨v,by simp[execOp,ho,h1],h2⟩
 revert he hv fin hm;generalize ev tm x=A;intro he hm hv fin;unfold xR at he;split at he
 ·rename_i k k' n hk;cases he;have hu:=LZ hT hk;rw[cH hv]at fin;refine fin (.int k (k.wrap n)) ?_ (.d (.v _));simp[convert,bQ hds,bQ hu,Conv.intToInt]
 ·rename_i s hk;cases he;have hu:=wG hT hk;rw[cH hv]at fin;refine fin (.string s) ?_ (.d (.v _));simp only[convert,bV,bQ hds,bQ hu,cC];rfl
 ·rename_i hk _;have hu:=wG hT hk;split at he
  ·rename_i E es rd hks hsrc;cases he;have hus:=mH hS hks;obtain⟨te,hte,hkb,hsz⟩:=hE E hks _ rfl;have hub:=LZ hte hkb;obtain⟨a1,c1,val1,hl⟩:=HG hsrc (λe he=>by
    have:=hsc e he;unfold vC at this;split at this
    ·rfl
    ·cases this) hv hm (λb hb k hk=>aG.eZ hk (.inl hb))
   have hrun:=run_bytesToString (P:=P) hl hsc;refine fin _ ?_ (.d (.v _));have hlv:=hl.v;generalize a.eval x=u at hlv hrun;subst hlv;simp only[convert,bV,bQ hus,bQ hu,bQ hub,cC,hrun]
  ·cases he
 ·cases he
def wK (op:BinOp):AV->AV->Option (Prop×aG)
 |.d (.v (.int k a)),.d (.v (.int _ b))=>match op with
  |.shl=>some (0<=b,⟨.d (.v (.int k (k.wrap (a*2^(min b.toNat k.bits))))),[],[]⟩)
  |.shr=>some (0<=b,⟨.d (.v (.int k (a.fdiv (2^(min b.toNat k.bits))))),[],[]⟩)
  |_=>none
 |_,_=>none
inductive NK where
 |s|p|i|f|m
 deriving DecidableEq
def K.nk :K->Option NK
 |.dA _=>some .s
 |.ptr _=>some .p
 |.iface _=>some .i
 |.func=>some .f
 |.map _ _=>some .m
 |_=>none
def EW :NK->Value->Bool
 |.s,.slice none 0 0=>true
 |.p,.pointer none=>true
 |.i,.nilIface=>true
 |.f,.nilFunc=>true
 |.m,.map none=>true
 |_,_=>false
def zS (mem:Mem):AV->Option (NK×Option Bool×List Nat)
 |.d (.v (.slice none _ _))=>some (.s,some true,[])
 |.d (.v (.pointer none))=>some (.p,some true,[])
 |.d (.v (.pointer (some _)))=>some (.p,some false,[])
 |.d (.v .nilIface)=>some (.i,some true,[])
 |.d (.v (.iface _ _))=>some (.i,some false,[])
 |.d (.v .nilFunc)=>some (.f,some true,[])
 |.d (.v (.func _ _ _))=>some (.f,some false,[])
 |.d (.v (.map none))=>some (.m,some true,[])
 |.d (.ro _ [])=>some (.s,none,[])
 |.d (.ro _ (_::_))=>some (.s,some false,[])
 |.d (.fn _ _ _)=>some (.f,some false,[])
 |.d (.aT _)=>some (.p,some false,[])
 |.d (.dC _ _)=>some (.i,some false,[])
 |.d (.mp _ _ _ _)=>some (.m,some false,[])
 |.ptr _ _=>some (.p,some false,[])
 |.dM _ _ _ _=>some (.p,some false,[])
 |.fn _ _ _=>some (.f,some false,[])
 |.dC _ _=>some (.i,some false,[])
 |.own b=>match mem b with
  |some (.grow _ [] _)=>some (.s,none,[b])
  |some (.grow _ (_::_) _)=>some (.s,some false,[b])
  |some (.map _ _ _ _)=>some (.m,some false,[b])
  |_=>none
 |_=>none
def zV (op:BinOp)(r:Option Bool):Option AV:=
 match op,r with
 |.eql,some b=>some (.d (.v (.bool b)))
 |.neq,some b=>some (.d (.v (.bool (!b))))
 |.eql,none=>some .ab
 |.neq,none=>some .ab
 |_,_=>none
def zT (op:BinOp)(y:Operand)(k:K)(mem:Mem)(x:AV):Option (Prop×aG):=
 match y with
 |.const c=>match k.nk,zS mem x with
  |some t,some (t',r,rd)=>if t=t'/\EW t c=true then match zV op r with
    |some v=>some (True,⟨v,rd,[]⟩)
    |none=>none
   else none
  |_,_=>none
 |_=>none
theorem VM {P:Program}{o:Oper}{op:BinOp}{T T':TypeId}{x y:Operand}(ho:o.op=.binOp op T x y T')(tm:Nat->AV)(mem:Mem)(nm:Nat){sc:Prop}{e:aG}(he:wK op (ev tm x) (ev tm y)=some (sc,e))(hsc:sc):aO P o tm (e.mr mem) nm e.res (e.mw mem):=by
 have hwr:e.wr=[]:=by
  unfold wK at he
  grind
 have hmw:e.mw mem=e.mr mem:=by
  obtain⟨r,rd,wr⟩:=e;simp only at hwr;subst hwr;exact aG.mO _ _ _
 rw[hmw];refine aO.pure λa w σ I h hm=>?_;have hx:=bO (σ:=σ) (I:=I) (w:=w) (tm:=tm) (a:=a) (x:=x) λs e=>h s (by simp[ho,Op.operands,e]);have hy:=bO (σ:=σ) (I:=I) (w:=w) (tm:=tm) (a:=a) (x:=y) λs e=>h s (by simp[ho,Op.operands,e])
 have fin:∀v,(do eqGuard op T x y (a.eval x) (a.eval y);binOp op T (a.eval x) (a.eval y):Sem Value).run P w=.ok v w->RV σ I w e.res v->
   ∃v,(execOp a.eval o).run P w=.ok (.value v) w/\RV σ I w e.res v:=by
  intro v h1 h2;refine⟨v,?_,h2⟩;simp only[execOp,ho,bV,h1];rfl
 revert he hx hy fin hm;generalize ev tm x=A;generalize ev tm y=B;intro he hm hx hy fin;unfold wK at he;split at he
 ·rename_i k p k' q;rw[cH hx,cH hy]at fin;split at he
  ·cases he;refine fin _ ?_ (.d (.v _));have hq:¬q<0:=by omega
   simp[eqGuard,binOp,Op.shift,hq]
  ·cases he;refine fin _ ?_ (.d (.v _));have hq:¬q<0:=by omega
   simp[eqGuard,binOp,Op.shift,hq]
  ·cases he
 ·cases he
section
variable {P : Program} {w : World} {T : TypeId}
theorem sY {x:Operand}{u c:Value}{b:Bool}(hg:∀op,eqGuard op T x (.const c) u c=pure ()\/(eqGuard op T x (.const c) u c).run P w=.ok () w)(he:(Op.equal T u c).run P w=.ok b w)
  (h1:binOp .eql T u c=(do pure (.bool (<-Op.equal T u c)))) (h2:binOp .neq T u c=(do pure (.bool (!(<-Op.equal T u c))))) (op:BinOp) (hop:op=.eql\/op=.neq):
  (do eqGuard op T x (.const c) u c;binOp op T u c:Sem Value).run P w=.ok (.bool (if op=.eql then b else !b)) w:=by
 have hg':∀op,(eqGuard op T x (.const c) u c).run P w=.ok () w:=λop=>by rcases hg op with h|h;rw[h];rfl;exact h
 rcases hop with rfl|rfl
 all_goals simp_all
theorem Bo {E:TypeId}(hd:P.underlying T=some (.slice E))(d:Nat)(a:Option Addr)(n m:Nat):(Op.equalIn (d+1) T (.slice a n m) (.slice none 0 0)).run P w=.ok a.isNone w:=by
 cases a<;>simp[Op.equalIn,bQ hd]
theorem Bp {E:TypeId}(hd:P.underlying T=some (.pointer E))(d:Nat)(a:Option Addr):(Op.equalIn (d+1) T (.pointer a) (.pointer none)).run P w=.ok a.isNone w:=by
 cases a<;>simp[Op.equalIn,bQ hd]
theorem Br {K E:TypeId}(hd:P.underlying T=some (.map K E))(d:Nat)(a:Option Nat):(Op.equalIn (d+1) T (.map a) (.map none)).run P w=.ok a.isNone w:=by
 cases a<;>simp[Op.equalIn,bQ hd]
theorem ND {ps rs:Array TypeId}{v:Bool}(hd:P.underlying T=some (.func ps rs v))(d:Nat):(Op.equalIn (d+1) T .nilFunc .nilFunc).run P w=.ok true w/\∀f a c,(Op.equalIn (d+1) T (.func f a c) .nilFunc).run P w=.ok false w:=by
 constructor
 ·simp[Op.equalIn,bQ hd]
 ·intro f a c;simp[Op.equalIn,bQ hd]
theorem NC {ms:Array (String×TypeId)}(hd:P.underlying T=some (.interface ms))(d:Nat):(Op.equalIn (d+1) T .nilIface .nilIface).run P w=.ok true w/\∀t y,(Op.equalIn (d+1) T (.iface t y) .nilIface).run P w=.ok false w:=by
 constructor
 ·simp[Op.equalIn,bQ hd]
 ·intro f a;simp[Op.equalIn,bQ hd]
end
inductive sI (w:World):NK->Option Bool->Value->Prop
 |s {a:Option Addr} {n m:Nat} {r:Option Bool} (h:r=none\/r=some a.isNone):sI w .s r (.slice a n m)
 |p {a:Option Addr} {r:Option Bool} (h:r=none\/r=some a.isNone):sI w .p r (.pointer a)
 |i0:sI w .i (some true) .nilIface
 |i1 {t:TypeId} {y:Value}:sI w .i (some false) (.iface t y)
 |f0:sI w .f (some true) .nilFunc
 |f1 {f:Fn} {a c:Array Value}:sI w .f (some false) (.func f a c)
 |m {a:Option Nat} {r:Option Bool} (h:r=none\/r=some a.isNone):sI w .m r (.map a)
theorem W6 {σ:Names}{I:Nat->Prop}{w:World}{mem mr:Mem}{x:AV}{t:NK}{r:Option Bool}{rd:List Nat}(h:zS mem x=some (t,r,rd)){u:Value}(hu:RV σ I w x u)(hm:RM σ I w mr)(hr:∀b∈rd,∀k,mem b=some k->mr b=some k):sI w t r u:=by
 unfold zS at h;split at h<;>first
  | (cases h;rw[cH hu];first|exact .s (.inr rfl)|exact .p (.inr rfl)|exact .i0|exact .i1|exact .f0|exact .f1|exact .m (.inr rfl))
  |skip
 ·cases h;cases hu with
  |d hu=>cases hu<;>exact .s (.inl rfl)
 ·cases h;cases hu with
  |d hu=>cases hu;exact .s (.inr rfl)
 ·cases h;cases hu with
  |d hu=>cases hu;exact .f1
 ·cases h;cases hu with
  |d hu=>cases hu;exact .p (.inr rfl)
 ·cases h;cases hu with
  |d hu=>cases hu;exact .i1
 ·cases h;cases hu with
  |d hu=>cases hu;exact .m (.inr rfl)
 ·cases h;cases hu;exact .p (.inr rfl)
 ·cases h;cases hu;exact .p (.inr rfl)
 ·cases h;cases hu;exact .f1
 ·cases h;cases hu;exact .i1
 ·rename_i b;split at h
  ·rename_i z T hb;cases h;obtain⟨y,hy,hrb⟩:=hm.grow (hr b (by simp) _ hb);cases hu with
   |own h' _=>
    rw[hy]at h';cases h';rcases hrb with⟨rfl,_⟩|⟨_,rfl,_⟩|⟨_,_,_,rfl,_⟩<;>exact .s (.inl rfl)
  ·rename_i z e es T hb;cases h;obtain⟨y,hy,hrb⟩:=hm.grow (hr b (by simp) _ hb);cases hu with
   |own h' _=>
    rw[hy]at h';cases h';rcases hrb with⟨_,h⟩|⟨_,_,h⟩|⟨_,_,_,rfl,_⟩
    ·cases h
    ·cases h
    ·exact .s (.inr rfl)
  ·rename_i ka ks va look hb;cases h;obtain⟨y,hy,hrb,_⟩:=hm.aS b _ (hr b (by simp) _ hb);cases hu with
   |own h' _=>
    rw[hy]at h';cases h';cases hrb;exact .m (.inr rfl)
  ·cases h
 ·cases h
theorem VQ {P:Program}{o:Oper}{op:BinOp}{T T':TypeId}{x y:Operand}(ho:o.op=.binOp op T x y T')(tm:Nat->AV)(mem:Mem)(nm:Nat){ti:TI}(hT:aH P T=some ti){sc:Prop}{e:aG}(he:zT op y ti.k mem (ev tm x)=some (sc,e)):aO P o tm (e.mr mem) nm e.res (e.mw mem):=by
 unfold zT at he;split at he
 case h_2=>cases he
 rename_i c;split at he
 case h_2=>cases he
 rename_i t t' r rd hkt hn;split at he
 case isFalse=>cases he
 rename_i hc;obtain⟨rfl,hcn⟩:=hc;split at he
 case h_2=>cases he
 rename_i v hv;cases he;rw[aG.mO];refine aO.pure λa w σ I h hm=>?_;have hx:=bO (σ:=σ) (I:=I) (w:=w) (tm:=tm) (a:=a) (x:=x) λs e=>h s (by simp[ho,Op.operands,e]);have hnv:=W6 hn hx hm (λb hb k hk=>aG.eZ hk (.inl hb));obtain⟨i,d,z,hi,hd,hz,hti⟩:=fG hT;have hk:ti.k=eC d:=by rw[hti]
 rw[hk]at hkt;have hop:op=.eql\/op=.neq:=by
  unfold zV at hv;split at hv<;>first|exact .inl rfl|exact .inr rfl|cases hv
 have fin:∀b:Bool,(r=none\/r=some b)->(do eqGuard op T x (.const c) (a.eval x) c;binOp op T (a.eval x) c:Sem Value).run P w=.ok (.bool (if op=.eql then b else !b)) w->
   ∃v',(execOp a.eval o).run P w=.ok (.value v') w/\RV σ I w v v':=by
  intro b hb h1;refine⟨.bool (if op=.eql then b else !b),?_,?_⟩
  ·have ec:a.eval (.const c)=c:=rfl;simp only[execOp,ho,ec,bV];simp at h1;rw[h1];rfl
  ·unfold zV at hv;rcases hb with rfl|rfl<;>rcases hop with rfl|rfl<;>simp only[mV]at hv<;>subst hv
   ·exact .ab _
   ·exact .ab _
   ·exact .d (.v _)
   ·exact .d (.v _)
 unfold EW at hcn;generalize hu:a.eval x=u at hnv fin;clear hx hu;cases hnv with
 | @s aa n m r hb=>
   split at hcn<;>first| (cases‹NK.s=_›;done)| (cases hcn;done)|skip
   cases d<;>simp[eC,K.nk]at hkt;exact fin aa.isNone hb (sY (λop=>.inr (by cases op<;>simp[eqGuard])) (Bo hd 9999 aa n m) rfl rfl op hop)
 | @p aa r hb=>
   split at hcn<;>first| (cases‹NK.p=_›;done)| (cases hcn;done)|skip
   cases d<;>simp[eC,K.nk]at hkt;exact fin aa.isNone hb (sY (λop=>.inr (by cases op<;>simp[eqGuard])) (Bp hd 9999 aa) rfl rfl op hop)
 |i0=>
  split at hcn<;>first| (cases‹NK.i=_›;done)| (cases hcn;done)|skip
  cases d<;>simp[eC,K.nk]at hkt;exact fin true (.inr rfl) (sY (λop=>.inr (by cases op<;>simp[eqGuard])) (NC hd 9999).1 rfl rfl op hop)
 |i1=>
  split at hcn<;>first| (cases‹NK.i=_›;done)| (cases hcn;done)|skip
  cases d<;>simp[eC,K.nk]at hkt;exact fin false (.inr rfl) (sY (λop=>.inr (by cases op<;>simp[eqGuard])) ((NC hd 9999).2 _ _) rfl rfl op hop)
 |f0=>
  split at hcn<;>first| (cases‹NK.f=_›;done)| (cases hcn;done)|skip
  cases d<;>simp[eC,K.nk]at hkt;exact fin true (.inr rfl) (sY (λop=>.inr (by cases op<;>simp[eqGuard])) (ND hd 9999).1 rfl rfl op hop)
 |f1=>
  split at hcn<;>first| (cases‹NK.f=_›;done)| (cases hcn;done)|skip
  cases d<;>simp[eC,K.nk]at hkt;exact fin false (.inr rfl) (sY (λop=>.inr (by cases op<;>simp[eqGuard])) ((ND hd 9999).2 _ _ _) rfl rfl op hop)
 | @m aa r hb=>
   split at hcn<;>first| (cases‹NK.m=_›;done)| (cases hcn;done)|skip
   cases d<;>simp[eC,K.nk]at hkt;exact fin aa.isNone hb (sY (λop=>.inr (by cases op<;>simp[eqGuard])) (Br hd 9999 aa) rfl rfl op hop)
def BT (k:K):AV->Option (Prop×aG)
 |.d (.v (.slice none 0 0))=>match k with|.dA _=>some (True,⟨.d (.v (.int .i64 0)),[],[]⟩)|_=>none
 |.d (.ro true es)=>match k with|.dA _=>some (True,⟨.d (.v (.int .i64 es.length)),[],[]⟩)|_=>none
 |_=>none
theorem WE {P:Program}{o:Oper}{c:Call}(ho:o.op=.call c)(hc:c.callee=.builtin .cap)(tm:Nat->AV)(mem:Mem)(nm:Nat){T:TypeId}(hT:c.argTypes[0]? =some T){ti:TI}(hti:aH P T=some ti){x:Operand}(hx:c.args[0]? =some x){sc:Prop}{e:aG}
  (he:BT ti.k (ev tm x)=some (sc,e)):aO P o tm (e.mr mem) nm e.res (e.mw mem):=by
 have hmem:x∈c.args.toList:=by
  grind
 have hxe:∀a:Act,(c.args.map a.eval)[0]? =some (a.eval x):=λa=>by simp[hx]
 unfold BT at he;split at he
 ·rename_i hxx;split at he
  ·rename_i E hk;cases he;rw[aG.mO];refine aO.pure λa w σ I h hm=>?_;have hv:=bO (σ:=σ) (I:=I) (w:=w) (tm:=tm) (a:=a) (x:=x) λs e=>h s (by subst e;simp[ho,Op.operands,Call.operands,hc];simpa using hmem);rw[hxx]at hv;have hu:=mH hti hk;exact⟨.int .i64 0,by simp[execOp,ho,resolve,hc,invoke,builtin,Builtin.cap_,hT,hxe,cH hv,bQ hu,goInt],.d (.v _)⟩
  ·cases he
 ·rename_i es hxx;split at he
  ·rename_i E hk;cases he;rw[aG.mO];refine aO.pure λa w σ I h hm=>?_;have hv:=bO (σ:=σ) (I:=I) (w:=w) (tm:=tm) (a:=a) (x:=x) λs e=>h s (by subst e;simp[ho,Op.operands,Call.operands,hc];simpa using hmem);rw[hxx]at hv;have hu:=mH hti hk;have hxa:=hxe a;have:∃ad n,a.eval x=.slice ad n es.length:=by
    generalize a.eval x=u at hv;cases hv with
    |d hv=>
     cases hv with
     |nil=>exact⟨_,_,rfl⟩
     |emp=>exact⟨_,_,rfl⟩
     |ro _ _ _ _ _ hfc _ _ _=>rw[hfc rfl];exact⟨_,_,rfl⟩
   obtain⟨ad,n,he'⟩:=this;rw[he']at hxa;exact⟨.int .i64 es.length,by simp[execOp,ho,resolve,hc,invoke,builtin,Builtin.cap_,hT,hxa,bQ hu,goInt],.d (.v _)⟩
  ·cases he
 ·cases he
def yV (assertsIface:Bool)(T:TypeId)(te:TI)(ok:Bool):AV->Option (Prop×aG)
 |.dC t x=>if assertsIface=false/\te.za=te.agg then
   if t=T then some (True,⟨if ok then .bC [x,.d (.v (.bool true))]else x,[],[]⟩)
   else if ok then some (True,⟨.bC [vA te.agg (te.zero.map D.v),.d (.v (.bool false))],[],[]⟩)else none
  else none
 |.d (.dC t x)=>if assertsIface=false/\te.za=te.agg then
   if t=T then some (True,⟨if ok then .bC [.d x,.d (.v (.bool true))]else .d x,[],[]⟩)
   else if ok then some (True,⟨.bC [vA te.agg (te.zero.map D.v),.d (.v (.bool false))],[],[]⟩)else none
  else none
 |_=>none
theorem VJ {P:Program}{o:Oper}{S T:TypeId}{x:Operand}{ok:Bool}(ho:o.op=.typeAssert x S T ok)(tm:Nat->AV)(mem:Mem)(nm:Nat){te:TI}(hT:aH P T=some te){ai:Bool}(hai:ai=false->∀b,te.k≠ .iface b){sc:Prop}{e:aG}
  (he:yV ai T te ok (ev tm x)=some (sc,e)):aO P o tm (e.mr mem) nm e.res (e.mw mem):=by
 obtain⟨i,d,z,hi,hd,hz,hti⟩:=fG hT;have tupR:∀{σ:Names} {I:Nat->Prop} {w:World} {r:AV} {v:Value} {b:Bool},RV σ I w r v->RV σ I w (.bC [r,.d (.v (.bool b))]) (.tuple #[v,.bool b]):=by
  intro σ I w r v b h;refine .bC (xs:=[v,.bool b]) rfl (λi c y h1 h2=>?_)
  match i,h1,h2 with
  |0,h1,h2=>simp at h1 h2;subst h1;subst h2;exact h
  |1,h1,h2=>simp at h1 h2;subst h1;subst h2;exact .d (.v _)
  |i+2,h1,h2=>simp at h1
 have hz':∀{σ:Names} {I:Nat->Prop} {w:World},RV σ I w (vA te.agg (te.zero.map D.v)) (mk te.agg te.zero):=by
  refine yA (by simp) (λj c x h1 h2=>?_);rw[fN,h2]at h1;cases h1;exact .v _
 have yes:∀{w:World} (t:TypeId) (v:Value),ai=false->t=T->(Instr.typeAssert (.iface t v) S T ok).run P w=.ok (if ok then .tuple #[v,.bool true]else v) w:=by
  intro w t v h1 h2;have hne:=hai h1;rw[hti]at hne;simp only[Instr.typeAssert,bV,bQ hd];cases d<;>first| (exact absurd rfl (hne _))| (cases ok<;>simp[h2])
 have no:∀{w:World} (t:TypeId) (v:Value),ai=false->te.za=te.agg->t≠T->ok=true->(Instr.typeAssert (.iface t v) S T ok).run P w=.ok (.tuple #[mk te.agg te.zero,.bool false]) w:=by
  intro w t v h1 h3 h2 h4;have hne:=hai h1;have hzm:=v8 (w:=w) hT h3;rw[hti]at hne;simp only[Instr.typeAssert,bV,bQ hd,cC];cases d<;>first| (exact absurd rfl (hne _))| (simp[h2,h4,hzm])
 have main:∀(t:TypeId) (r:AV),(if ai=false/\te.za=te.agg then
   if t=T then some (True,(⟨if ok then .bC [r,.d (.v (.bool true))]else r,[],[]⟩:aG))
   else if ok then some (True,⟨.bC [vA te.agg (te.zero.map D.v),.d (.v (.bool false))],[],[]⟩)else none
  else none)=some (sc,e)->(∀{a:Act} {w:World} {σ:Names} {I:Nat->Prop},RV σ I w (ev tm x) (a.eval x)->∃v,a.eval x=.iface t v/\RV σ I w r v)->aO P o tm (e.mr mem) nm e.res (e.mw mem):=by
  intro t r he hr;split at he
  ·rename_i hc;split at he
   ·rename_i hte;cases he;rw[aG.mO];refine aO.pure λa w σ I h hm=>?_;obtain⟨v,hv1,hv2⟩:=hr (bO (σ:=σ) (I:=I) (w:=w) (tm:=tm) (a:=a) (x:=x) λs e=>h s (by simp[ho,Op.operands,e]));refine⟨_,by simp only[execOp,ho,hv1,bV,yes t v hc.1 hte,cC];rfl,?_⟩;cases ok with
    |true=>exact tupR hv2
    |false=>exact hv2
   ·rename_i hte;split at he
    ·rename_i hok;cases he;rw[aG.mO];refine aO.pure λa w σ I h hm=>?_;obtain⟨v,hv1,hv2⟩:=hr (bO (σ:=σ) (I:=I) (w:=w) (tm:=tm) (a:=a) (x:=x) λs e=>h s (by simp[ho,Op.operands,e]));exact⟨_,by simp only[execOp,ho,hv1,bV,no t v hc.1 hc.2 hte hok,cC];rfl,tupR hz'⟩
    ·cases he
  ·cases he
 unfold yV at he;split at he
 ·rename_i t r hx;refine main t r he (λ{a w σ I} hv=>?_);rw[hx]at hv;generalize a.eval x=u at hv;cases hv with
  |dC h=>exact⟨_,rfl,h⟩
 ·rename_i t r hx;refine main t (.d r) he (λ{a w σ I} hv=>?_);rw[hx]at hv;generalize a.eval x=u at hv;cases hv with
  |d hv=>cases hv with
   |dC h=>exact⟨_,rfl,.d h⟩
 ·cases he
def AD (te:TI)(E:TypeId)(nm:Nat):AV->AV->Option (Prop×aG)
 |.d (.v (.int _ n)),.d (.v (.int _ m))=>if te.zero.length=te.sz then
   some (0<=n/\n<=m/\m*te.bytes<=281474976710656/\m<=9223372036854775807,⟨.own nm,[],[(nm,some (.grow te.sz (List.replicate n.toNat (te.zero.map D.v)) E))]⟩)else none
 |_,_=>none
theorem S1 {P:Program}{w:World}{t e:TypeId}{i:TypeInfo}{z:Value}(ht:P.underlying t=some (.slice e))(hi:P.info? e=some i)(hz:i.zero=some z){k1 k2:IntKind}{n m:Int}(c1:0<=n)(c2:n<=m)(c3:m*i.bytes<=281474976710656)(c4:m<=9223372036854775807):
  (Instr.makeSlice t (.int k1 n) (.int k2 m)).run P w=.ok (.slice (some ⟨w.heap.size,0,none⟩) n.toNat m.toNat) (w.alloc (.cells ((Array.range (m.toNat*i.size)).map (z.cells[· %z.cells.size]!)) e (0,0))):=by
 have hwn:IntKind.i64.wrap n=n:=yO n ⟨by omega,by omega⟩;have hwm:IntKind.i64.wrap m=m:=yO m ⟨by omega,by omega⟩;have h1:¬m<0:=by omega
 have h2:¬((281474976710656:Int)<i.bytes*m):=by grind
 have h3:¬n<0:=by omega
 have h4:¬m<n:=by omega
 by_cases h0:m.toNat*i.size=0
 ·have e0:(Array.range (m.toNat*i.size)).map (z.cells[· %z.cells.size]!)=#[]:=by rw[h0];simp
  rw[e0];simp[Instr.makeSlice,bQ ht,asInt,asIntOf,typeInfo,hi,hwn,hwm,h1,h2,h3,h4,sizeOf,h0,newRow];congr 2
  all_goals first|rfl| (apply Array.ext';simp)
 ·simp[Instr.makeSlice,bQ ht,asInt,asIntOf,typeInfo,hi,hwn,hwm,h1,h2,h3,h4,sizeOf,h0,zeroValue,hz,newRow]
theorem VV {P:Program}{o:Oper}{T:TypeId}{l c:Operand}(ho:o.op=.makeSlice T l c)(tm:Nat->AV)(mem:Mem)(nm:Nat){ti te:TI}{E:TypeId}(hT:aH P T=some ti)(hk:ti.k=.dA E)(hE:aH P E=some te)(hone:∀x∈te.zero,x.oneCell'=true){sc:Prop}{e:aG}
  (he:AD te E nm (ev tm l) (ev tm c)=some (sc,e)) (hsc:sc):aO P o tm (e.mr mem) nm e.res (e.mw mem):=by
 unfold AD at he;split at he
 case h_2=>cases he
 rename_i k1 n k2 m hl hc;split at he
 case isFalse=>cases he
 rename_i hzl;cases he;obtain⟨c1,c2,c3,c4⟩:=hsc;refine aO.val λa w σ I hib h hm hfree=>?_;have hu:=mH hT hk;obtain⟨i,d,z,hi,hd,hz,hte⟩:=fG hE;have hvl:=bO (σ:=σ) (I:=I) (w:=w) (tm:=tm) (a:=a) (x:=l) λs e=>h s (by simp[ho,Op.operands,e]);have hvc:=bO (σ:=σ) (I:=I) (w:=w) (tm:=tm) (a:=a) (x:=c) λs e=>h s (by simp[ho,Op.operands,e]);rw[hl]at hvl;rw[hc]at hvc;have el:=cH hvl;have ec:=cH hvc;have hsz:i.size=te.sz:=by rw[hte]
 have hby:i.bytes=te.bytes:=by rw[hte]
 have hzz:te.zero=z.cells.toList:=by rw[hte]
 have hzc:z.cells.size=te.sz:=by rw[<-hzl,hzz];simp
 have hzero:(zeroValue E).run P w=.ok z w:=by simp[zeroValue,typeInfo,hi,hz]
 have hwn:IntKind.i64.wrap n=n:=yO n ⟨by omega,by omega⟩;have hwm:IntKind.i64.wrap m=m:=yO m ⟨by omega,by omega⟩;have hrun:=S1 (P:=P) (w:=w) hu hi hz (k1:=k1) (k2:=k2) c1 c2 (by rw[hby];exact c3) c4;rw[hsz]at hrun;have hzt:=CO m.toNat te.sz z.cells hzc;have hfr:σ nm=none:=hfree nm ⟨aY _,by omega⟩;have hlenA:((Array.range (m.toNat*te.sz)).map (z.cells[· %z.cells.size]!)).size=m.toNat*te.sz:=by simp
 have hcell:∀(i:Nat) e (j:Nat) c,(List.replicate n.toNat (te.zero.map D.v))[i]? =some e->e[j]? =some c->∃x,((Array.range (m.toNat*te.sz)).map (z.cells[· %z.cells.size]!)).toList[i*te.sz+j]? =some x/\RD I w c x/\x.oneCell'=true:=by
  intro i e j c he hcc;have hi':i<n.toNat:=by have:=(cJ.1 he).1;simpa using this
  rw[List.getElem?_replicate_of_lt hi']at he;cases he;rw[fN]at hcc;cases hx:te.zero[j]? with
  |none=>simp[hx]at hcc
  |some x=>
   simp[hx]at hcc;subst hcc;have hj:j<te.sz:=by rw[<-hzl];exact(cJ.1 hx).1
   refine⟨x,?_,.v x,hone x (gI hx)⟩;have hlt:i*te.sz+j<m.toNat*te.sz:=by
    have:(i+1)*te.sz<=m.toNat*te.sz:=mC _ (by omega);rw[fU,nO]at this;omega
   have hmod:(i*te.sz+j)%te.sz=j:=by
    rw[qD,Nat.mul_add_mod];exact CC hj
   have hzx:z.cells[j]? =some x:=by rw[hzz]at hx;simpa using hx
   have hzb:z.cells[j]! =x:=by rw[Array.getElem!_eq_getD,Array.getD_eq_getD_getElem?,hzx];rfl
   rw[uK,Array.getElem?_map];have:(Array.range (m.toNat*te.sz))[i*te.sz+j]? =some (i*te.sz+j):=by simp[hlt]
   rw[this];simp only[lF,hzc,hmod,hzb]
 refine⟨.slice (some ⟨w.heap.size,0,none⟩) n.toNat m.toNat,w.alloc (.cells ((Array.range (m.toNat*te.sz)).map (z.cells[· %z.cells.size]!)) E (0,0)),cN σ nm (.slice (some ⟨w.heap.size,0,none⟩) n.toNat m.toNat),I,?_,?_,.own (by simp[cN]) rfl⟩
 ·simp only[execOp,ho,bV,el,ec,hrun,cC];rfl
 ·refine cB.swap (k:=.grow te.sz (List.replicate n.toNat (te.zero.map D.v)) E) none hib hm hfr rfl rfl ⟨rfl,aY _⟩ (by simp) (λj hj _=>pB w _ hj) (λσ' _=>?_) (λq hn=>?_) (λc q hq=>.inl (aG.z1 c q hq))
  ·have:=u0 (σ:=σ') (I:=I) (w:=w.alloc (.cells ((Array.range (m.toNat*te.sz)).map (z.cells[· %z.cells.size]!)) E (0,0))) (sz:=te.sz) (es:=List.replicate n.toNat (te.zero.map D.v)) (T:=E) (cap:=m.toNat) (vals:=((Array.range (m.toNat*te.sz)).map (z.cells[· %z.cells.size]!)).toList) (uB w _) (by simp;omega) (by simp[maxLen];omega) (by rw[hlenA];exact aY _)
    (λe he=>by rw[GI he];simp[hzl]) (λq u h=>by rw[<-uK];exact h)
    (λi e j c he hcc=>let⟨x,p1,p2,p3⟩:=hcell i e j c he hcc;⟨x,p1,p2.mono (λn hn=>pB w _ (hib n hn)) (λ_ h=>h),p3⟩)
   rwa[List.length_replicate]at this
  ·rcases mX m.toNat with h0|h0
   ·rw[h0]at hn;cases hn
   ·rw[mR h0]at hn;cases hn;exact .inr ⟨aY _,by simp⟩
def BP (te:TI)(mem:Mem):AV->Option (Prop×aG)
 |.sl b z i len=>match mem b with
  |some (.grow z' es T)=>if z=te.sz/\z'=te.sz/\te.zero.length=te.sz then
    some (i+len<=es.length,⟨.d (.v (.tuple #[])),[],[(b,some (.grow te.sz (es.take i++List.replicate len (te.zero.map D.v)++es.drop (i+len)) T))]⟩)else none
  |_=>none
 |_=>none
theorem Db {res:AV}{b:Nat}{k k':aN}{mem:Mem}(hb:mem b=some k)(e:k'=k):(aG.mk res [] [(b,some k')]).mw mem=(aG.mk res [] [(b,some k')]).mr mem:=by
 subst e;funext c
 rw[aG.u2];show(if c=b then some k' else none)=_;by_cases h:c=b
 ·subst h;rw[bA rfl,aG.eZ hb (.inr (by simp[wrote]))]
 ·rw[aR h];simp[aG.mr,wrote,mW h]
theorem WD {P:Program}{o:Oper}{c:Call}(ho:o.op=.call c)(hc:c.callee=.builtin .clear)(tm:Nat->AV)(mem:Mem)(nm:Nat){T E:TypeId}(hT:c.argTypes[0]? =some T){ti te:TI}(hti:aH P T=some ti)(hk:ti.k=.dA E)(hE:aH P E=some te)
  (hone:∀x∈te.zero,x.oneCell'=true) {x:Operand} (hx:c.args[0]? =some x) {sc:Prop} {e:aG} (he:BP te mem (ev tm x)=some (sc,e)) (hsc:sc):aO P o tm (e.mr mem) nm e.res (e.mw mem):=by
 have hmem:x∈c.args.toList:=by
  rw[<-uK]at hx;exact gI hx
 have hxe:∀a:Act,(c.args.map a.eval)[0]? =some (a.eval x):=λa=>by simp[hx]
 unfold BP at he;split at he
 case h_2=>cases he
 rename_i b z i len hxx;split at he
 case h_2=>cases he
 rename_i z' es T' hb;split at he
 case isFalse=>cases he
 rename_i hcc;obtain⟨rfl,rfl,hzl⟩:=hcc;cases he;refine aO.val λa w σ I hib h hm hfree=>?_;have hu:=mH hti hk;obtain⟨inf,d,z,hi,hd,hz,hte⟩:=fG hE;have hv:=bO (σ:=σ) (I:=I) (w:=w) (tm:=tm) (a:=a) (x:=x) λs e=>h s (by subst e;simp[ho,Op.operands,Call.operands,hc];simpa using hmem);rw[hxx]at hv;have hsz:inf.size=te.sz:=by rw[hte]
 have hzz:te.zero=z.cells.toList:=by rw[hte]
 have hzc:z.cells.size=te.sz:=by rw[<-hzl,hzz];simp
 have hzero:(zeroValue E).run P w=.ok z w:=by simp[zeroValue,typeInfo,hi,hz]
 obtain⟨y,hy,hrb,hyn⟩:=hm.aS b _ (aG.eZ hb (.inr (by simp[wrote])));have hxa:=hxe a
 have same:len=0->(∃ad cp,a.eval x=.slice ad 0 cp)->∃v w' σ' I',(execOp a.eval o).run P w=.ok (.value v) w'/\cB σ I w ((aG.mk (.d (.v (.tuple #[]))) [] [(b,some (.grow te.sz (es.take i++List.replicate len (te.zero.map D.v)++es.drop (i+len)) T'))]).mr mem) nm σ' I' w'
   ((aG.mk (.d (.v (.tuple #[]))) [] [(b,some (.grow te.sz (es.take i++List.replicate len (te.zero.map D.v)++es.drop (i+len)) T'))]).mw mem)/\RV σ' I' w' (.d (.v (.tuple #[]))) v:=by
  rintro h0 ⟨ad,cp,he⟩;refine⟨.tuple #[],w,σ,I,?_,?_,.d (.v _)⟩
  ·rw[he]at hxa;cases ad<;>simp[execOp,ho,resolve,hc,invoke,builtin,Builtin.clear_,hT,hxa,bQ hu]
  ·rw[Db hb (by subst h0;simp)];exact cB.refl hib hm
 rcases mX len with h0|h0
 ·refine same h0 ?_;generalize a.eval x=u at hv;subst h0;cases hv with
  |sl h hs=>
   cases hs with
   |nil=>exact⟨_,_,rfl⟩
   |none a=>exact⟨_,_,rfl⟩
   |some _ _=>exact⟨_,_,rfl⟩
 have hval:∃n len0 cap c,a.eval x=.slice (some ⟨n,i*te.sz,none⟩) len c/\y=.slice (some ⟨n,0,none⟩) len0 cap/\i+c<=cap/\len<=c:=by
  generalize a.eval x=u at hv;cases hv with
  |sl h hs=>
   rw[hy]at h;cases h;cases hs with
   |nil=>omega
   |none a=>omega
   |some h1 h2=>exact⟨_,_,_,_,rfl,rfl,h1,h2⟩
 obtain⟨n,len0,cap,c',hval,rfl,q1,q2⟩:=hval
 obtain⟨arr,g1,g2,g3,g4,g5,g6,g7⟩:∃arr,w.heap[n]? =some (.cells arr T' (0,0))/\cap*te.sz<=arr.size/\es.length<=cap/\cap<=maxLen/\(∀e∈es,e.length=te.sz)/\
   (∀(i:Nat) e (j:Nat) c,es[i]? =some e->e[j]? =some c->∃x,arr[i*te.sz+j]? =some x/\RD I w c x/\x.oneCell'=true)/\len0=es.length:=by
  cases hrb with
  |emp _=>simp at hsc;omega
  |grow g1 g2 g3 g4 g5 g6=>exact⟨_,g1,g2,g3,g4,g5,g6,rfl⟩
 subst g7
 let vs:List Value:=(Builtin.zeroCells z.cells len).toList
 have hvl:vs.length=len*te.sz:=by simp[vs,Builtin.zeroCells,hzc]
 have hvx:∀q,q<len*te.sz->vs[q]? =some (z.cells[q%te.sz]!):=λq hq=>by
  simp only[vs,Builtin.zeroCells,hzc,uK,Array.getElem?_map];have:(Array.range (len*te.sz))[q]? =some q:=by simp[hq]
  rw[this];rfl
 have hvone:∀v∈vs,v.oneCell'=true:=by
  intro v hv;obtain⟨q,hq⟩:=sO hv;have hql:q<len*te.sz:=by rw[<-hvl];exact(cJ.1 hq).1
  rw[hvx q hql]at hq;cases hq;have hpos:0<te.sz:=by
   rcases mX te.sz with h|h
   ·rw[h]at hql;omega
   ·exact h
  have hlt:q%te.sz<z.cells.size:=by rw[hzc];exact Nat.mod_lt _ hpos
  refine hone _ ?_;rw[hzz,uC z.cells _ hlt];simp
 have hb1:(i+len)*te.sz<=cap*te.sz:=mC _ (by omega);rw[fU]at hb1;have hrun:=run_storeCells_at (P:=P) n (i*te.sz) T' vs 0 arr w g1 (by rw[hvl];omega) hvone;simp only[uH]at hrun;rw[hvl]at hrun;have hcap:0<cap:=by omega
 have hbn:AI.hb (Value.slice (some ⟨n,0,none⟩) es.length cap)=some n:=mR hcap;have hnI:¬I n:=(hyn n hbn).2
 let arr':Array Value:=(arr.toList.take (i*te.sz)++vs++arr.toList.drop (i*te.sz+len*te.sz)).toArray
 refine⟨.tuple #[],w.setRow n arr',σ,I,?_,?_,.d (.v _)⟩
 ·rw[hval]at hxa;have hne:len≠0:=by omega
  obtain⟨l,rfl⟩:∃l,len=l+1:=⟨len-1,by omega⟩;simp[execOp,ho,resolve,hc,invoke,builtin,Builtin.clear_,hT,hxa,bQ hu,hzero];simp only[vs]at hrun;rw[hrun];rfl
 ·refine cB.write (b:=b) (k':=.grow te.sz (es.take i++List.replicate len (te.zero.map D.v)++es.drop (i+len)) T') hib hm (aG.eZ hb (.inr (by simp[wrote]))) hy hbn (λj hj=>uA w n j _ hj) (by simp) rfl rfl ⟨rfl,aY _⟩ ?_ qL;have hel:(es.take i++List.replicate len (te.zero.map D.v)++es.drop (i+len)).length=es.length:=by simp;omega
  have hal:arr'.size=arr.size:=by simp[arr',hvl];omega
  have key:=RB.grow (σ:=σ) (I:=I) (w:=w.setRow n arr') (sz:=te.sz) (es:=es.take i++List.replicate len (te.zero.map D.v)++es.drop (i+len)) (T:=T') (n:=n) (cap:=cap) (setRow_heap w n arr _ T' _ g1) (by rw[hal];exact g2) (by rw[hel];exact g3) g4 ?_ ?_
  ·rw[hel]at key;exact key
  ·intro e he;simp only[fZ]at he;rcases he with(he|he)|he
   ·exact g5 e (rL he)
   ·rw[GI he];simp[hzl]
   ·exact g5 e (List.mem_of_mem_drop he)
  ·intro k e j c k1 k2;have mono:∀{c y},RD I w c y->RD I (w.setRow n arr') c y:=λh=>h.mono (λj hj=>uA w n j _ (λe=>hnI (e▸hj))) (λ_ h=>h);have htk:(es.take i).length=i:=by simp;omega
   have hj:j<te.sz:=by
    have h1:=(cJ.1 k2).1;have:e.length=te.sz:=by
     have he:=gI k1;simp only[fZ]at he;rcases he with(he|he)|he
     ·exact g5 e (rL he)
     ·rw[GI he];simp[hzl]
     ·exact g5 e (List.mem_of_mem_drop he)
    omega
   have hsl:(arr.toList.take (i*te.sz)).length=i*te.sz:=by simp;omega
   by_cases h1:k<i
   ·rw[CH,lS (by omega),GH h1]at k1;obtain⟨x,p1,p2,p3⟩:=g6 k e j c k1 k2;refine⟨x,?_,mono p2,p3⟩;have:(k+1)*te.sz<=i*te.sz:=mC _ h1;rw[fU,nO]at this;rw[yI,CH,lS (by omega),GH (by omega)];simpa using p1
   ·by_cases h2:k<i+len
    ·rw[lS (by simp;omega),mF (by omega),htk,List.getElem?_replicate_of_lt (by omega)]at k1;cases k1;rw[fN]at k2;cases hx':te.zero[j]? with
     |none=>simp[hx']at k2
     |some x'=>
      simp[hx']at k2;subst k2;refine⟨x',?_,.v x',hone x' (gI hx')⟩;have e1:k*te.sz+j=i*te.sz+((k-i)*te.sz+j):=by
       have:k*te.sz=i*te.sz+(k-i)*te.sz:=by rw[<-fU];congr 1;omega
       omega
      have e2:(k-i)*te.sz+j<len*te.sz:=by
       have:(k-i+1)*te.sz<=len*te.sz:=mC _ (by omega);rw[fU,nO]at this;omega
      rw[yI,e1,lS (by rw[oK,hsl,hvl];omega),mF (by omega),hsl,Nat.add_sub_cancel_left,hvx _ e2];have hmod:((k-i)*te.sz+j)%te.sz=j:=by
       rw[qD,Nat.mul_add_mod];exact CC hj
      have hzx:z.cells[j]? =some x':=by rw[hzz]at hx';simpa using hx'
      rw[hmod,Array.getElem!_eq_getD,Array.getD_eq_getD_getElem?,hzx];rfl
    ·have hrl:(es.take i++List.replicate len (te.zero.map D.v)).length=i+len:=by rw[oK,htk];simp
     rw[mF (by omega),hrl,sP,show i+len+(k-(i+len))=k by omega]at k1;obtain⟨x,p1,p2,p3⟩:=g6 k e j c k1 k2;refine⟨x,?_,mono p2,p3⟩;have hal2:(arr.toList.take (i*te.sz)++vs).length=i*te.sz+len*te.sz:=by rw[oK,hsl,hvl]
     have:(i+len)*te.sz<=k*te.sz:=mC _ (by omega);rw[fU]at this;rw[yI,mF (by omega),hal2,sP,show i*te.sz+len*te.sz+(k*te.sz+j-(i*te.sz+len*te.sz))=k*te.sz+j by omega];simpa using p1
def B4 (te:TI)(E:TypeId)(nm:Nat):AV->AV->Option (Prop×aG)
 |.d (.v (.slice none 0 0)),.d (.v (.int .i64 n))=>if te.zero.length=te.sz/\0<te.sz then
   some (0<n/\n*te.bytes<=140737488355328/\n<=140737488355328,⟨.own nm,[],[(nm,some (.grow te.sz (List.replicate n.toNat (te.zero.map D.v)) E))]⟩)else none
 |_,_=>none
theorem S8 {P:Program}{w:World}{t u ty e:TypeId}{i:TypeInfo}{z:Value}(ht:P.underlying t=some (.slice e))(hu:P.underlying u=some (.int .i64))(hi:P.info? e=some i)(hz:i.zero=some z)(hs:0<i.size)
  {n:Int} (h0:0<n) (h1:n<=140737488355328) (hfit:Builtin.nextslicecap n.toNat 0*i.bytes<=281474976710656) (hb:n*i.bytes<=140737488355328):
  (Builtin.append_ #[t,u] ty #[.slice none 0 0,.int .i64 n]).run P w=
    .ok (.slice (some ⟨w.heap.size,0,none⟩) n.toNat (grownCap w n.toNat 0 e)) (w.drew.alloc (.cells (Builtin.zeroCells z.cells n.toNat++Builtin.zeroCells z.cells (grownCap w n.toNat 0 e-n.toNat)) e)):=by
 have hw:IntKind.i64.wrap n=n:=yO n ⟨by omega,by omega⟩;have c1:¬n<0:=by omega
 have c2:¬(281474976710656<n*(i.bytes:Int)):=by omega
 have c3:¬(9223372036854775807<n):=by omega
 have c4:¬(281474976710656<Builtin.nextslicecap n.toNat 0*i.bytes):=by omega
 have c5:n.toNat≠0:=by omega
 have c6:i.size≠0:=by omega
 have c7:((n.toNat:Nat):Int)=n:=by omega
 have c8:¬n<=0:=by omega
 have c9:¬(n=0):=by omega
 have c10:¬(9223372036854775807<max n 0):=by omega
 have c11:n.toNat*i.size≠0:=Nat.mul_ne_zero c5 c6;simp[Builtin.append_,bQ ht,bQ hu,sizeOf,typeInfo,zeroValue,hi,hz,asInt,asIntOf,hw,c1,c2,c3,c4,c5,c6,c7,c8,c9,c10,c11,Question.forced,Builtin.firstCells,newRow,grownCap]
theorem Y4 {P:Program}{T:TypeId}{ti:TI}(hT:aH P T=some ti)(hk:ti.k=.int .i64):P.underlying T=some (.int .i64):=by
 obtain⟨i,d,z,hi,hd,hz,rfl⟩:=fG hT;rw[hd];simp only at hk;cases d<;>simp[eC]at hk<;>simp[hk]
theorem WK {P:Program}{o:Oper}{c:Call}(ho:o.op=.call c)(hc:c.callee=.builtin .append)(tm:Nat->AV)(mem:Mem)(nm:Nat){T U:TypeId}(hT:c.argTypes=#[T,U]){x y:Operand}(hx:c.args=#[x,y])
  {ti te tu:TI} {E:TypeId} (hti:aH P T=some ti) (hk:ti.k=.dA E) (hE:aH P E=some te) (htu:aH P U=some tu) (hku:tu.k=.int .i64) (hone:∀x∈te.zero,x.oneCell'=true) {sc:Prop} {e:aG}
  (he:B4 te E nm (ev tm x) (ev tm y)=some (sc,e)) (hsc:sc):aO P o tm (e.mr mem) nm e.res (e.mw mem):=by
 unfold B4 at he;split at he
 case h_2=>cases he
 rename_i n hl hn;split at he
 case isFalse=>cases he
 rename_i hzl;obtain⟨hzl,hpos⟩:=hzl;cases he;obtain⟨s1,s2,s3⟩:=hsc;refine aO.val λa w σ I hib h hm hfree=>?_;have hu:=mH hti hk;have huu:=Y4 htu hku;obtain⟨i,d,z,hi,hd,hz,hte⟩:=fG hE;have hvl:=bO (σ:=σ) (I:=I) (w:=w) (tm:=tm) (a:=a) (x:=x) λs e=>h s (by subst e;simp[ho,Op.operands,Call.operands,hx]);have hvc:=bO (σ:=σ) (I:=I) (w:=w) (tm:=tm) (a:=a) (x:=y) λs e=>h s (by subst e;simp[ho,Op.operands,Call.operands,hx]);rw[hl]at hvl;rw[hn]at hvc;have el:=cH hvl;have ec:=cH hvc;have hsz:i.size=te.sz:=by rw[hte]
 have hby:i.bytes=te.bytes:=by rw[hte]
 have hzz:te.zero=z.cells.toList:=by rw[hte]
 have hzc:z.cells.size=te.sz:=by rw[<-hzl,hzz];simp
 have hnn:((n.toNat:Nat):Int)=n:=by omega
 have hb':n.toNat*i.bytes<=140737488355328:=by
  have:((n.toNat*i.bytes:Nat):Int)<=140737488355328:=by rw[Int.natCast_mul,hnn,hby];exact s2
  omega
 have hrun:=S8 (P:=P) (w:=w) (t:=T) (u:=U) (ty:=o.type) hu huu hi hz (by omega) s1 s3 (growslice_fits (by omega) hb') (by rw[hby];exact s2);have hfr:σ nm=none:=hfree nm ⟨aY _,by omega⟩;have hge:=grownCap_ge w n.toNat 0 E;have hmx:grownCap w n.toNat 0 E<=maxLen:=grownCap_le_maxLen w _ _ _ (by simp[maxLen];omega)
 let arr:Array Value:=Builtin.zeroCells z.cells n.toNat++Builtin.zeroCells z.cells (grownCap w n.toNat 0 E-n.toNat)
 have hal:arr.size=grownCap w n.toNat 0 E*te.sz:=by
  simp only[arr,Array.size_append,size_zeroCells,hzc];rw[<-fU];congr 1;omega
 have hcell:∀(i:Nat) e (j:Nat) c,(List.replicate n.toNat (te.zero.map D.v))[i]? =some e->e[j]? =some c->∃x,(Builtin.zeroCells z.cells n.toNat).toList[i*te.sz+j]? =some x/\RD I w c x/\x.oneCell'=true:=by
  intro i e j c he hcc;have hi':i<n.toNat:=by have:=(cJ.1 he).1;simpa using this
  rw[List.getElem?_replicate_of_lt hi']at he;cases he;rw[fN]at hcc;cases hx:te.zero[j]? with
  |none=>simp[hx]at hcc
  |some x=>
   simp[hx]at hcc;subst hcc;have hj:j<te.sz:=by rw[<-hzl];exact(cJ.1 hx).1
   refine⟨x,?_,.v x,hone x (gI hx)⟩;have hlt:i*te.sz+j<n.toNat*te.sz:=by
    have:(i+1)*te.sz<=n.toNat*te.sz:=mC _ (by omega);rw[fU,nO]at this;omega
   have hmod:(i*te.sz+j)%te.sz=j:=by
    rw[qD,Nat.mul_add_mod];exact CC hj
   have hzx:z.cells[j]? =some x:=by rw[hzz]at hx;simpa using hx
   have hzb:z.cells[j]! =x:=by rw[Array.getElem!_eq_getD,Array.getD_eq_getD_getElem?,hzx];rfl
   simp only[Builtin.zeroCells,hzc];rw[uK,Array.getElem?_map];have:(Array.range (n.toNat*te.sz))[i*te.sz+j]? =some (i*te.sz+j):=by simp[hlt]
   rw[this];simp only[lF,hmod,hzb]
 refine⟨.slice (some ⟨w.heap.size,0,none⟩) n.toNat (grownCap w n.toNat 0 E),w.drew.alloc (.cells arr E (0,0)),cN σ nm (.slice (some ⟨w.heap.size,0,none⟩) n.toNat (grownCap w n.toNat 0 E)),I,?_,?_,.own (by simp[cN]) rfl⟩
 ·simp[execOp,ho,resolve,hc,invoke,builtin,hT,hx,el,ec,hrun];rfl
 ·refine cB.swap (k:=.grow te.sz (List.replicate n.toNat (te.zero.map D.v)) E) none hib hm hfr rfl rfl ⟨rfl,Nat.le_succ _⟩ (by simp) (λj hj _=>pB w.drew _ hj) (λσ' _=>?_) (λq hn=>?_) (λc q hq=>.inl (aG.z1 c q hq))
  ·have:=u0 (σ:=σ') (I:=I) (w:=w.drew.alloc (.cells arr E (0,0))) (sz:=te.sz) (es:=List.replicate n.toNat (te.zero.map D.v)) (T:=E) (cap:=grownCap w n.toNat 0 E) (vals:=(Builtin.zeroCells z.cells n.toNat).toList) (uB w.drew _) (by simp;omega) hmx (by rw[hal];exact aY _)
    (λe he=>by rw[GI he];simp[hzl]) (λq u h=>by
      have hlt:=(cJ.1 h).1;rw[Array.getElem?_append_left (by simpa using hlt)];simpa using h)
    (λi e j c he hcc=>let⟨x,p1,p2,p3⟩:=hcell i e j c he hcc;⟨x,p1,RD.mono (w:=w) (w':=w.drew.alloc (.cells arr E (0,0))) (λn hn=>pB w.drew _ (hib n hn)) (λ_ h=>h) p2,p3⟩)
   rwa[List.length_replicate]at this
  ·rw[mR (by omega)]at hn;cases hn;exact .inr ⟨aY _,by simp⟩
def cX (kp:Nat->Bool)(mm:Nat->Option aN):Nat->AV->AV
 |0,a=>a
 |n+1,a=>match a with
  |.own b=>if kp b then .own b else match mm b with
   |some (.grow _ es _)=>.d (.ro false es)
   |some (.map ka ks va look)=>.d (.mp ka ks va look)
   |_=>.own b
  |.sl b sz i len=>if kp b then .sl b sz i len else match mm b with
   |some (.grow z es _)=>if z=sz/\i+len<=es.length then .d (.ro false ((es.drop i).take len))else .sl b sz i len
   |_=>.sl b sz i len
  |.ptr b off=>if kp b then .ptr b off else match mm b with
   |some (.cells cs _)=>match kM (cs.map (cX kp mm n))with
    |some ds=>if(cs.map (cX kp mm n)).all rY=true then .d (.aT (ds.drop off))else .ptr b off
    |none=>.ptr b off
   |_=>.ptr b off
  |.agg cs=>.agg (cs.map (cX kp mm n))
  |.bC cs=>.bC (cs.map (cX kp mm n))
  |.fn f x y=>match kM (x.map (cX kp mm n)),kM (y.map (cX kp mm n))with
   |some x',some y'=>.d (.fn f x' y')
   |_,_=>.fn f (x.map (cX kp mm n)) (y.map (cX kp mm n))
  |.dC t x=>match rQ (cX kp mm n x)with
   |some d=>.d (.dC t d)
   |none=>.dC t (cX kp mm n x)
  |a=>a
section
variable {kp : Nat -> Bool} {mm : Nat -> Option aN} {n : Nat}
@[simp] theorem prA_d (x:D):cX kp mm (n+1) (.d x)=.d x:=rfl
@[simp] theorem prA_any :cX kp mm (n+1) .any=.any:=rfl
@[simp] theorem prA_ab :cX kp mm (n+1) .ab=.ab:=rfl
@[simp] theorem prA_prow (b sz i off:Nat):cX kp mm (n+1) (.dM b sz i off)=.dM b sz i off:=rfl
@[simp] theorem prA_own (b:Nat):cX kp mm (n+1) (.own b)=if kp b then .own b else match mm b with
    |some (.grow _ es _)=>.d (.ro false es)
    |some (.map ka ks va look)=>.d (.mp ka ks va look)
    |_=>.own b:=rfl
@[simp] theorem prA_sl (b sz i len:Nat):cX kp mm (n+1) (.sl b sz i len)=if kp b then .sl b sz i len else match mm b with
    |some (.grow z es _)=>if z=sz/\i+len<=es.length then .d (.ro false ((es.drop i).take len))else .sl b sz i len
    |_=>.sl b sz i len:=rfl
@[simp] theorem prA_ptr (b off:Nat):cX kp mm (n+1) (.ptr b off)=if kp b then .ptr b off else match mm b with
    |some (.cells cs _)=>match kM (cs.map (cX kp mm n))with
     |some ds=>if(cs.map (cX kp mm n)).all rY=true then .d (.aT (ds.drop off))else .ptr b off
     |none=>.ptr b off
    |_=>.ptr b off:=rfl
@[simp] theorem UT (cs:List AV):cX kp mm (n+1) (.agg cs)=.agg (cs.map (cX kp mm n)):=rfl
@[simp] theorem UQ (cs:List AV):cX kp mm (n+1) (.bC cs)=.bC (cs.map (cX kp mm n)):=rfl
@[simp] theorem US (f:Fn)(x y:List AV):cX kp mm (n+1) (.fn f x y)=match kM (x.map (cX kp mm n)),kM (y.map (cX kp mm n))with
    |some x',some y'=>.d (.fn f x' y')
    |_,_=>.fn f (x.map (cX kp mm n)) (y.map (cX kp mm n)):=rfl
@[simp] theorem UR (t:TypeId)(x:AV):cX kp mm (n+1) (.dC t x)=match rQ (cX kp mm n x)with
    |some d=>.d (.dC t d)
    |none=>.dC t (cX kp mm n x):=rfl
end
def given (σ:Names)(I:Nat->Prop)(mm:Mem)(kp:Nat->Bool)(n:Nat):Prop:=I n\/∃b,kp b=false/\rH σ mm (some b) n
theorem QG {x:AV}{d:D}(h:rQ x=some d):x=.d d:=by
 unfold rQ at h
 grind
theorem wN {σ:Names}{I:Nat->Prop}{w:World}{mm:Mem}{kp:Nat->Bool}(hm:RM σ I w mm):∀(n:Nat) {a:AV} {v:Value},RV σ I w a v->RV σ (given σ I mm kp) w (cX kp mm n a) v:=by
 have hII:∀n,I n->given σ I mm kp n:=λn h=>.inl h;have mono:∀{a:AV} {v:Value},RV σ I w a v->RV σ (given σ I mm kp) w a v:=λh=>h.mono (λ_ _=>rfl) hII (λ_ _ h=>h);have monoD:∀{a:D} {v:Value},RD I w a v->RD (given σ I mm kp) w a v:=λh=>h.mono (λ_ _=>rfl) hII;intro n;induction n with
 |zero=>intro a v h;exact mono h
 |succ n ih=>
  have aD:∀{cs:List AV} {xs:List Value},(∀(i:Nat) c x,cs[i]? =some c->xs[i]? =some x->RV σ I w c x)->∀(i:Nat) c x,(cs.map (cX kp mm n))[i]? =some c->xs[i]? =some x->RV σ (given σ I mm kp) w c x:=by
   grind
  have lstD:∀{cs:List AV} {ds:List D} {xs:List Value},kM (cs.map (cX kp mm n))=some ds->(∀(i:Nat) c x,cs[i]? =some c->xs[i]? =some x->RV σ I w c x)->∀(i:Nat) c x,ds[i]? =some c->xs[i]? =some x->RD (given σ I mm kp) w c x:=by
   intro cs ds xs hd h i c x h1 h2;have:=aD h i (.d c) x (by rw[mZ hd];simp[h1]) h2;exact yC this
  intro a v h;cases h with
  |d h=>exact .d (monoD h)
  |any=>exact .any _
  |ab t=>exact .ab t
  |dM h=>exact .dM h
  | @own b _ hb h1=>
    simp;split
    ·exact .own hb h1
    ·rename_i hk;have hk:kp b=false:=by simpa using hk
     split
     ·rename_i z es T hbm;obtain⟨x,hx,hrb⟩:=hm.grow hbm;rw[hb]at hx;cases hx;rcases hrb with⟨rfl,rfl⟩|⟨ad,rfl,rfl⟩|⟨m,cap,arr,rfl,g1,g2,g3,g4,g5,g6⟩
      ·exact .d .nil
      ·exact .d .emp
      ·rcases mX cap with h0|h0
       ·subst h0;have:es=[]:=gX (by omega);subst this;exact .d .emp
       ·refine .d (.ro (sz:=z) (λi j=>arr.getD (i*z+j) undef) (.inr ⟨b,hk,b,_,_,rfl,hbm,hb,mR h0⟩) g5 g3 g4 (λh=>by cases h) (λi e j c he hc=>?_) (λi e j c he hc=>?_) (λi e j c he hc=>?_))
        ·obtain⟨q,hq,_⟩:=g6 i e j c he hc;rw[rF g1,rK];simp[hq]
        ·obtain⟨q,hq,hr,_⟩:=g6 i e j c he hc;simpa[hq]using monoD hr
        ·obtain⟨q,hq,_,ho⟩:=g6 i e j c he hc;simpa[hq]using ho
     ·rename_i ka ks va look hbm;obtain⟨x,hx,hrb,_⟩:=hm.aS b _ hbm;rw[hb]at hx;cases hx;cases hrb with
      |map keys vals hw _ hk' hu hl hv=>exact .d (.mp keys vals (.inr ⟨b,hk,b,_,_,rfl,hbm,hb,rfl⟩) hw hk' hu hl (λi d j c x a1 a2 a3 a4=>monoD (hv i d j c x a1 a2 a3 a4)))
     ·exact .own hb h1
  | @sl b sz i len y v hb hs=>
    simp;split
    ·exact .sl hb hs
    ·rename_i hk;have hk:kp b=false:=by simpa using hk
     split
     ·rename_i z es T hbm;split
      ·rename_i hc;obtain⟨rfl,hle⟩:=hc;obtain⟨ad,c,val,hl⟩:=EF hm hbm hle (RV.sl hb hs);cases hs with
       |nil=>
        simp;exact .d .nil
       |none a=>simp;exact .d .emp
       | @some m L cap i' l c' hcc hll=>
         rcases mX c' with h0|h0
         ·subst h0;have:len=0:=by omega
          subst this;simp;exact .d .emp
         ·have hlv:=hl.v;simp only[Value.slice.injEq]at hlv;obtain⟨rfl,hlen,rfl⟩:=hlv;have key:RV σ (given σ I mm kp) w (.d (.ro false ((es.drop i).take len))) (.slice (some ⟨m,i*z,none⟩) ((es.drop i).take len).length c'):=.d (.ro (sz:=z) (fc:=false) val (.inr ⟨b,hk,b,_,_,rfl,hbm,hb,mR (by omega)⟩) hl.len hl.cap hl.max (λh=>by cases h) (λq e j x he hx=>(hl.cell _ rfl q e j x he hx).2) (λq e j x he hx=>monoD (hl.rd q e j x he hx)) (λq e j x he hx=>hl.one q e j x he hx));rw[<-hlen]at key;exact key
      ·exact .sl hb hs
     ·exact .sl hb hs
  | @ptr b off m hb=>
    simp only[cX];split
    ·exact .ptr hb
    ·rename_i hk;have hk:kp b=false:=by simpa using hk
     split
     ·rename_i cs T hbm;split
      ·rename_i ds hds;split
       ·rename_i hone;obtain⟨m',arr,g1,g2,g3,g4⟩:=hm.cells hbm;rw[hb]at g1;cases g1;have hlen:ds.length=cs.length:=by have:=cI List.length (mZ hds);simpa using this.symm
        have hc:=λ(j:Nat) c (h:(ds.drop off)[j]? =some c)=>by
         have h':ds[off+j]? =some c:=by rwa[sP]at h
         have hlt:off+j<arr.size:=by rw[g3,<-hlen];exact(cJ.1 h').1
         have e1:arr.toList[off+j]? =some (arr.getD (off+j) undef):=by simp[hlt]
         exact(show w.cell? ⟨m,off+j,none⟩=some (arr.getD (off+j) undef)/\RD (given σ I mm kp) w c (arr.getD (off+j) undef)/\(arr.getD (off+j) undef).oneCell'=true from by
          refine⟨by rw[rF g2];simpa using e1,?_,?_⟩
          ·exact lstD hds (λi c x h1 h2=>g4 i c x h1 (by simpa using h2)) (off+j) c _ h' e1
          ·have hh:=aD (cs:=cs) (xs:=arr.toList) (λi c x h1 h2=>g4 i c x h1 (by simpa using h2)) (off+j) (.d c) _ (by rw[mZ hds];simp[h']) e1;exact zO hh (cS.1 hone _ (gI (i:=off+j) (by rw[mZ hds];simp[h']))))
        exact .d (.aT (λj=>arr.getD (off+j) undef) (.inr ⟨b,hk,b,_,_,rfl,hbm,hb,rfl⟩) (λj c h=>(hc j c h).1) (λj c h=>(hc j c h).2.1) (λj c h=>(hc j c h).2.2))
       ·exact .ptr hb
      ·exact .ptr hb
     ·exact .ptr hb
  |agg hl hr=>
   simp;exact .agg (by simpa using hl) (aD hr)
  |bC hl hr=>
   simp;exact .bC (by simpa using hl) (aD hr)
  |fn hx hy h1 h2=>
   simp;split
   ·rename_i x' y' e1 e2;have l1:=cI List.length (mZ e1);have l2:=cI List.length (mZ e2);simp at l1 l2;exact .d (.fn (by omega) (by omega) (lstD e1 h1) (lstD e2 h2))
   ·exact .fn (by simpa using hx) (by simpa using hy) (aD h1) (aD h2)
  |dC h=>
   simp only[cX];split
   ·rename_i d hd;have:=ih h;rw[QG hd]at this;exact .d (.dC (yC this))
   ·exact .dC (ih h)
theorem JE {kp:Nat->Bool}{mm mm':Nat->Option aN}(h:∀b,kp b=false->mm b=mm' b):∀(n:Nat) (a:AV),cX kp mm n a=cX kp mm' n a:=by
 intro n;induction n with
 |zero=>intro a;rfl
 |succ n ih=>
  have hf:cX kp mm n=cX kp mm' n:=funext ih;intro a;cases a with
  |own b=>
   simp_all
  |sl b sz i len=>
   simp_all
  |ptr b off=>
   simp_all
  |agg cs=>simp only[UT,hf]
  |bC cs=>simp only[UQ,hf]
  |fn f x y=>simp only[US,hf]
  |dC t x=>simp only[UR,ih]
  |_=>rfl
def fK (gv:List Nat)(mem:Mem):Mem:=λb=>if gv.contains b then none else mem b
theorem uL (l r:List (Nat×Option aN))(b:Nat):wrote (l++r) b=match wrote l b with|some k=>some k|none=>wrote r b:=by
 induction l with
 |nil=>rfl
 |cons p l ih=>
  simp only[yK,wrote];split
  ·rfl
  ·exact ih
theorem yR (gv:List Nat)(b:Nat):wrote (gv.map λc=>(c,(none:Option aN))) b=if gv.contains b then some none else none:=by
 induction gv with
 |nil=>rfl
 |cons c l ih=>
  simp only[fM,wrote]
  grind
theorem aO.xD {P:Program}{o:Oper}{tm:Nat->AV}{mem:Mem}{nm:Nat}(gv:List Nat){e:aG}(hgv:∀b,b∈gv->(mem b).isSome=true)
  (h:aO P o (λt=>cX (λb=>!gv.contains b) mem 8 (tm t)) (e.mr (fK gv mem)) nm e.res (e.mw (fK gv mem))):
  aO P o tm ((aG.mk e.res e.rd (e.wr++gv.map λb=>(b,none))).mr mem) nm e.res ((aG.mk e.res e.rd (e.wr++gv.map λb=>(b,none))).mw mem):=by
 intro a w σ I h1 h2 h3 h4 next Q hn
 let kp:Nat->Bool:=λb=>!gv.contains b
 let m2:Mem:=(aG.mk e.res e.rd (e.wr++gv.map λb=>(b,none))).mr mem
 have hm2:∀b,kp b=false->mem b=m2 b:=by
  intro b hb;have hc:gv.contains b=true:=by grind
  have hw:(wrote (e.wr++gv.map λb=>(b,none)) b).isSome=true:=by
   rw[uL,yR,hc];cases wrote e.wr b<;>rfl
  simp only[m2,aG.mr,hw,true_or,dY]
 have sub:∀b k,e.mr (fK gv mem) b=some k->m2 b=some k/\gv.contains b=false:=by
  intro b k hk;simp only[aG.mr]at hk;split at hk
  ·rename_i hc;simp only[fK]at hk;split at hk
   ·cases hk
   ·rename_i hg;refine⟨?_,by simpa using hg⟩;simp only[m2,aG.mr];rw[bA ?_]
    ·exact hk
    ·rcases hc with hc|hc
     ·left;rw[uL];obtain⟨q,hq⟩:=oJ.1 hc;rw[hq];simp
     ·exact .inr hc
  ·cases hk
 have hib:∀n,given σ I m2 kp n->n<w.heap.size:=by
  intro n hn;rcases hn with hn|⟨b,_,c,k,y,hc,hk,hy,e⟩
  ·exact h1 n hn
  ·obtain⟨y',hy',_,hh⟩:=h3.aS c k hk;rw[hy]at hy';cases hy';exact(hh n e).1
 have own2:∀n,cR σ (e.mr (fK gv mem)) n->cR σ m2 n:=by
  rintro n ⟨b,k,x,hb,hx,e⟩;exact⟨b,k,x,(sub b k hb).1,hx,e⟩
 have hrm:RM σ (given σ I m2 kp) w (e.mr (fK gv mem)):=by
  refine⟨λb k hb=>?_,λb b' k k' x x' n hb hb' hx hx' q q'=>h3.apart b b' k k' x x' n (sub b k hb).1 (sub b' k' hb').1 hx hx' q q'⟩;obtain⟨hb2,hbg⟩:=sub b k hb;obtain⟨x,hx,hrb,hh⟩:=h3.aS b k hb2;refine⟨x,hx,hrb.mono (λ_ _=>rfl) (λn h=>.inl h) (λ_ _ h=>h) (λ_ _=>rfl),λn hn=>⟨(hh n hn).1,?_⟩⟩;rintro(hI|⟨c,hc,d,k',y,hd,hk',hy,q⟩)
  ·exact(hh n hn).2 hI
  ·cases hd;have:=h3.apart b c k k' x y n hb2 hk' hx hy hn q;subst this;simp only[kp]at hc;rw[hbg]at hc;cases hc
 refine h a w σ (given σ I m2 kp) hib (λt ht=>?_) hrm h4 next Q (λv σ' I' w' hp hv=>hn v σ' I' w' ?_ hv)
 ·have:=wN (kp:=kp) h3 8 (h2 t ht)
  rwa[<-JE (mm:=mem) (mm':=m2) hm2]at this
 ·have hmw:∀c q,(aG.mk e.res e.rd (e.wr++gv.map λb=>(b,none))).mw mem c=some q->e.mw (fK gv mem) c=some q:=by
   intro c q hq;simp only[aG.mw,uL,yR]at hq;simp only[aG.mw];cases hw:wrote e.wr c with
   |some o=>rw[hw]at hq;exact hq
   |none=>
    rw[hw]at hq;simp only at hq⊢;cases hc:gv.contains c with
    |true=>rw[hc]at hq;simp at hq
    |false=>
     rw[hc]at hq;simp only[fK,hc];simpa using hq
  have ownsMw:∀n,cR σ' ((aG.mk e.res e.rd (e.wr++gv.map λb=>(b,none))).mw mem) n->cR σ' (e.mw (fK gv mem)) n:=by
   rintro n ⟨b,k,x,hb,hx,q⟩;exact⟨b,k,x,hmw b k hb,hx,q⟩
  refine⟨hp.os,hp.tape,hp.output,hp.size,hp.names,hp.new,λn hn=>hp.pV n (.inl hn),hp.ib,λn hn=>?_,λn hn hno=>hp.frame n hn (λho=>hno (own2 n ho)),⟨λb k hb=>hp.mem.aS b k (hmw b k hb),λb b' k k' x x' n hb hb'=>hp.mem.apart b b' k k' x x' n (hmw b k hb) (hmw b' k' hb')⟩,λc q hq=>?_,λn ho=>?_⟩
  ·rcases hp.fB n hn with(g|⟨b,_,c,k,y,hc,hk,hy,q⟩)|g|g
   ·exact .inl g
   ·exact .inr (.inr ⟨c,k,y,hk,hy,q⟩)
   ·exact .inr (.inl g)
   ·exact .inr (.inr (own2 n g))
  ·rcases hp.p8 c q (hmw c q hq)with g|g
   ·left;obtain⟨k,hk⟩:=Option.ne_none_iff_exists'.1 g;show m2 c≠none;rw[(sub c k hk).1];simp
   ·exact .inr g
  ·rcases hp.eM n (ownsMw n ho)with g|g
   ·exact .inl (own2 n g)
   ·exact .inr g
noncomputable def BF (te:TI)(ka:Bool)(ks:List CK)(mem:Mem)(nm:Nat)(m key:AV):Option (Prop×aG):=
 match m,oU key with
 |.own b,some kc=>match mem b with
  |some (.map ka' ks' va look)=>if ka'=ka/\ks'=ks/\nG key=ka/\va=te.agg/\te.za=te.agg then
    some (dJ ks kc=true/\look kc=none,⟨.bC [vA te.agg (te.zero.map D.v),.own nm],[],[(b,some (.iL ka ks va look kc nm))]⟩)else none
  |_=>none
 |_,_=>none
noncomputable def yY (mem:Mem)(m s x:AV):Option (Prop×aG):=
 match m,s,(cellsOf x).bind kM with
 |.own b,.own c',some ds=>match mem b with
  |some (.iL ka ks va look kc c)=>if nG x=va/\c=c' then some (True,⟨.d (.v undef),[],[(b,some (.map ka ks va (iW look kc ds)))]⟩)else none
  |_=>none
 |_,_,_=>none
theorem cB.open {σ:Names}{I:Nat->Prop}{w w':World}{m:Mem}{nm b:Nat}{x v:Value}{k k':aN}{n:Nat}(hib:∀n,I n->n<w.heap.size)(hm:RM σ I w m)
  (hb1:m b=some k) (hx:σ b=some x) (hn:hb x=some n) (hfr:σ nm=none) (ho:∀j,j≠n->w'.heap[j]? =w.heap[j]?) (hs:w'.heap.size=w.heap.size)
  (h1:w'.os=w.os) (h2:w'.tape=w.tape) (h3:lC w' w) (hk:RB (cN σ nm v) I w' k' x) {m':Mem} (hm':∀c q,m' c=some q->c=b/\q=k'):
  cB σ I w m nm (cN σ nm v) I w' m':=by
 have hne:b≠nm:=by grind
 have hub:cN σ nm v b=some x:=by simp[cN,hne,hx]
 obtain⟨y,hy,_,hyn⟩:=hm.aS b k hb1;rw[hx]at hy;cases hy;refine⟨h1,h2,h3,by omega,λc y hc=>?_,λc hc hc'=>?_,λ_ h=>h,λj hj=>by rw[hs];exact hib j hj,λ_ h=>.inl h,λj hj hno=>ho j (λe=>hno ⟨b,k,x,hb1,hx,by rw[hn,e]⟩),⟨λc q hq=>?_,λc c' q q' z z' j a1 a2 _ _ _ _=>?_⟩,λc q hq=>?_,λj hj=>?_⟩
 ·have:c≠nm:=by rintro rfl;rw[hc]at hfr;cases hfr
  simp[cN,this,hc]
 ·by_cases e:c=nm
  ·subst e;exact⟨aY _,by omega⟩
  ·simp[cN,e,hc]at hc'
 ·obtain⟨rfl,rfl⟩:=hm' c q hq;exact⟨x,hub,hk,λj hj=>by rw[hs];exact hyn j hj⟩
 ·rw[(hm' c q a1).1,(hm' c' q' a2).1]
 ·rw[(hm' c q hq).1];exact .inl (by rw[hb1];simp)
 ·obtain⟨c,q,z,a1,a2,a3⟩:=hj;obtain⟨rfl,rfl⟩:=hm' c q a1;rw[hub]at a2;cases a2;exact .inl ⟨c,k,x,hb1,hx,a3⟩
theorem HR (I:Nat->Prop)(w:World){kc:List Value}{keys:Nat->List Value}{look:List Value->Option (List D)}{ka va:Bool}{ks:List CK}{vals:Nat->List Value}{es:Array MapEntry}
  (g1:∀(i:Nat) e,es[i]? =some e->e.key=mk ka (keys i)/\e.val=mk va (vals i)/\dJ ks (keys i)=true/\∃d,look (keys i)=some d/\d.length=(vals i).length)
  (g3:∀k d,look k=some d->∃i,i<es.size/\keys i=k) (h:look kc=none):e8 kc keys es.size 0=none:=by
 rcases B9.e8 (I:=I) (w:=w) g1 g3 kc with⟨i,_,_,_,d,h1,_⟩|⟨h1,_⟩
 ·simp_all
 ·exact h1
theorem WB {P:Program}{o:Oper}{T:TypeId}{m key:Operand}(ho:o.op=.mapEntry T m key)(tm:Nat->AV)(mem:Mem)(nm:Nat){ti:TI}(hT:aH P T=some ti){K E:TypeId}(hk:ti.k=.map K E){te:TI}(hE:aH P E=some te){ka:Bool}{ks:List CK}(hK:pR P K ka ks){sc:Prop}{e:aG}
  (he:BF te ka ks mem nm (ev tm m) (ev tm key)=some (sc,e)) (hsc:sc):aO P o tm (e.mr mem) nm e.res (e.mw mem):=by
 unfold BF at he;split at he
 case h_2=>cases he
 rename_i b kc hm0 hkc;split at he
 case h_2=>cases he
 rename_i ka' ks' va look hb;split at he
 case isFalse=>cases he
 rename_i hc;obtain⟨rfl,rfl,c3,rfl,c5⟩:=hc;cases he;obtain⟨s1,s2⟩:=hsc;have hu:=wT hT hk;refine aO.val λa w σ I h1 h h3 hfree=>?_;have hfr:σ nm=none:=hfree nm ⟨aY _,by omega⟩;have hvk:=u7 hkc (bO (σ:=σ) (I:=I) (w:=w) (tm:=tm) (a:=a) (x:=key) λs e=>h s (by simp[ho,Op.operands,e]));rw[c3]at hvk;have hvm:=bO (σ:=σ) (I:=I) (w:=w) (tm:=tm) (a:=a) (x:=m) λs e=>h s (by simp[ho,Op.operands,e]);rw[hm0]at hvm;have hmr:=aG.eZ (e:=⟨.bC [vA te.agg (te.zero.map D.v),.own nm],[],[(b,some (.iL ka' ks' te.agg look kc nm))]⟩) hb (.inr (by simp[wrote]));obtain⟨y,hy,hrb,hyn⟩:=h3.aS b _ hmr;generalize hev:a.eval m=u at hvm;cases hvm with
 |own h' _=>
  rw[hy]at h';cases h';cases hrb with
  | @map _ _ _ _ n clock es keys vals hw g0 g1 g2 g3 g4=>
    have hck:=uX (w:=w) hK s1 false;have hfk:=run_findKey (w:=w) hK s1 (keys:=keys) (es:=es) (λj e h=>⟨(g1 j e h).1,(g1 j e h).2.2.1⟩);have hg:(getObj n).run P w=.ok (.map es clock) w:=by simp[getObj,Sem.run,hw]
    have hs:=HR I w g1 g3 s2;have hlt:=(e7.1 hw).1;have hzr:(zeroValue E).run P w=.ok (mk te.agg te.zero) w:=v8 hE c5;refine⟨.tuple #[mk te.agg te.zero,.int .i64 clock],{w with heap:=w.heap.setIfInBounds n (.map (es.push {key:=mk ka' kc,val:=mk te.agg te.zero,born:=clock}) (clock+1))},cN σ nm (.int .i64 clock),I,?_,?_,?_⟩
    ·simp only[execOp,ho];rw[hev,hvk];simp only[Instr.mapEntry,bV,bQ hu,cC,hg,hck,hfk,hs,Option.map_none,hzr];simp[setObj,Sem.run,hw,goInt]
    ·refine cB.open (w':={w with heap:=w.heap.setIfInBounds n (.map (es.push {key:=mk ka' kc,val:=mk te.agg te.zero,born:=clock}) (clock+1))}) (v:=.int .i64 (clock:Int)) (k':=.iL ka' ks' te.agg look kc nm) (b:=b) (n:=n) h1 h3 hmr hy rfl hfr (λj hj=>by simp[lH (mW hj)]) (by simp) rfl rfl ⟨rfl,aY _⟩ ?_ (λc q hq=>?_)
     ·refine .iL (z:=mk te.agg te.zero) keys vals (by simp[hlt]) (by simp[cN]) g0 s2 s1 g1 g2 g3 (λi d j c x q1 q2 q3 q4=>?_);have hnI:¬I n:=(hyn n rfl).2;exact(g4 i d j c x q1 q2 q3 q4).mono (λk hk=>by simp[lH (show n≠k from λe=>hnI (e▸hk))]) (λ_ h=>h)
     ·rw[aG.u2]at hq;by_cases e:c=b
      ·simp[e]at hq;exact⟨e,hq.symm⟩
      ·simp[e]at hq
    ·refine .bC (xs:=[mk te.agg te.zero,.int .i64 clock]) rfl (λi c x h4 h5=>?_)
     match i,h4,h5 with
     |0,h4,h5=>
      simp at h4 h5;subst h4;subst h5;refine yA (by simp) (λj c x h6 h7=>?_);rw[fN,h7]at h6;cases h6;exact .v _
     |1,h4,h5=>simp at h4 h5;subst h4;subst h5;exact .own (by simp[cN]) rfl
     |i+2,h4,h5=>simp at h4
theorem V8 {P:Program}{o:Oper}{T:TypeId}{m s x:Operand}(ho:o.op=.entryStore T m s x)(tm:Nat->AV)(mem:Mem)(nm:Nat){sc:Prop}{e:aG}
  (he:yY mem (ev tm m) (ev tm s) (ev tm x)=some (sc,e)):aO P o tm (e.mr mem) nm e.res (e.mw mem):=by
 unfold yY at he;split at he
 case h_2=>cases he
 rename_i b c' ds hm0 hs0 hds;split at he
 case h_2=>cases he
 rename_i ka ks va look kc c hb;split at he
 case isFalse=>cases he
 rename_i hc;obtain⟨c4,rfl⟩:=hc;cases he;refine aO.skip λa w σ I h1 h h3 _=>?_;have hvm:=bO (σ:=σ) (I:=I) (w:=w) (tm:=tm) (a:=a) (x:=m) λs e=>h s (by simp[ho,Op.operands,e]);have hvs:=bO (σ:=σ) (I:=I) (w:=w) (tm:=tm) (a:=a) (x:=s) λs e=>h s (by simp[ho,Op.operands,e]);have hvx:=bO (σ:=σ) (I:=I) (w:=w) (tm:=tm) (a:=a) (x:=x) λs e=>h s (by simp[ho,Op.operands,e]);rw[hm0]at hvm;rw[hs0]at hvs;obtain⟨cl,hcl,hds'⟩:=Option.bind_eq_some_iff.1 hds;obtain⟨v1,v2⟩:=vO hvx hcl;have hcd:=mZ hds';subst hcd;have hvmk:a.eval x=mk va (a.eval x).cells.toList:=by rw[<-c4];exact val_mk hvx hcl
 have hmr:=aG.eZ (e:=⟨.d (.v undef),[],[(b,some (.map ka ks va (iW look kc ds)))]⟩) hb (.inr (by simp[wrote]));obtain⟨y,hy,hrb,hyn⟩:=h3.aS b _ hmr;generalize hev:a.eval m=u at hvm;cases hvm with
 |own h' _=>
  rw[hy]at h';cases h';cases hrb with
  | @iL _ _ _ _ _ _ n clock z es keys vals hw hst g0 hkc hfk g1 g2 g3 g4=>
    have hes:a.eval s=.int .i64 clock:=by
     generalize a.eval s=us at hvs;cases hvs with
     |own h6 _=>rw[hst]at h6;cases h6;rfl
    have hnI:¬I n:=(hyn n rfl).2;have hlt:=(e7.1 hw).1;have hg:(getObj n).run P w=.ok (.map (es.push {key:=mk ka kc,val:=z,born:=clock}) (clock+1)) w:=by simp[getObj,Sem.run,hw]
    have hfi:(es.push {key:=mk ka kc,val:=z,born:=clock}).findIdx? (λe=>(e.born:Int)==(clock:Int))=some es.size:=by
     rw[Array.findIdx?_eq_some_iff_getElem];refine⟨by simp,by simp,λj hj=>?_⟩;have hj':j<es.size:=hj;rw[Array.getElem_push_lt hj'];have:=g0 j es[j] (iV hj');simp;omega
    let ob:Obj:=.map (es.push {key:=mk ka kc,val:=mk va (a.eval x).cells.toList,born:=clock}) (clock+1)
    have hmod:((es.push {key:=mk ka kc,val:=z,born:=clock}).modify es.size λe=>{e with val:=mk va (a.eval x).cells.toList})=es.push {key:=mk ka kc,val:=mk va (a.eval x).cells.toList,born:=clock}:=by
     apply Array.ext_getElem?;intro j;rw[rN,v7,v7];by_cases e1:j=es.size
     ·subst e1;simp
     ·simp[e1,mW e1]
    have hrun:(Instr.entryStore T (.map (some n)) (a.eval s) (a.eval x)).run P w=.ok () {w with heap:=w.heap.setIfInBounds n ob}:=by
     rw[hes];have ha:(asInt (.int .i64 (clock:Int))).run P w=.ok (clock:Int) w:=rfl;simp only[Instr.entryStore,bV,hg,cC,ha,hfi];rw[hvmk,hmod];simp[setObj,Sem.run,hw,ob]
    have g4':∀(i:Nat) d (j:Nat) c x,i<es.size->look (keys i)=some d->d[j]? =some c->(vals i)[j]? =some x->RD I {w with heap:=w.heap.setIfInBounds n ob} c x:=λi d j c x q1 q2 q3 q4=>
     (g4 i d j c x q1 q2 q3 q4).mono (λk hk=>by simp[lH (show n≠k from λe=>hnI (e▸hk))]) (λ_ h=>h)
    have hr':∀(j:Nat) c x',ds[j]? =some c->(a.eval x).cells.toList[j]? =some x'->RD I {w with heap:=w.heap.setIfInBounds n ob} c x':=λj c x' q1 q2=>by
     have:=v2 j (.d c) x' (by simp[q1]) (by simpa using q2);exact(yC this).mono (λk hk=>by simp[lH (show n≠k from λe=>hnI (e▸hk))]) (λ_ h=>h)
    refine⟨_,σ,I,by rw[execOp,ho];simp only[hev,bV,hrun,cC];rfl,?_⟩;refine cB.write (w':={w with heap:=w.heap.setIfInBounds n ob}) (b:=b) h1 h3 hmr hy rfl (λj hj=>?_) (by simp) rfl rfl ⟨rfl,aY _⟩ ?_ qL
    ·simp[lH (mW hj)]
    ·exact(GC (w:=w) (n:=n) (clock:=clock) g0 g1 g2 g3 g4' hfk (by simpa using v1.symm) hr').2 (HR I w g1 g3 hkc) (by simp[hlt,ob])
theorem yQ (l:List (Nat×Option aN))(b:Nat):(wrote l b).isSome=true↔b∈l.map (·.1):=by
 induction l with
 |nil=>simp[wrote]
 |cons p l ih=>
  obtain⟨c,k⟩:=p;simp only[wrote,iF]
  grind
theorem FR {a b:List Nat}(h:xO a b=true){x:Nat}(hx:x∈a):x∉b:=by
 simp only[xO,cS]at h;have:=h x hx;simpa using this
theorem XQ {o:Oper}{t:Nat}(h:Operand.tmp t∈o.op.operands):t∈DS o:=by
 simp only[DS,List.mem_filterMap];exact⟨.tmp t,by simpa using h,rfl⟩
theorem K5 {ops:Array Oper}{o:Oper}{t:Nat}(h:looks ops o t):t∈ED ops o:=by
 rcases h with h|⟨g,wa,p,h1,h2,h3⟩
 ·exact fZ.2 (.inl (XQ h))
 ·refine fZ.2 (.inr ?_);simp[h1,h2,h3]
theorem WX {ops:Array Oper}{x y:Oper}(h:meets ops x y=false):
  (∀d,x.dst=some d->y.dst≠some d/\¬looks ops y d)/\(∀d,y.dst=some d->¬looks ops x d):=by
 simp only[meets,Bool.or_eq_false_iff]at h;obtain⟨h1,h2⟩:=h;refine⟨λd hd=>?_,λd hd hl=>?_⟩
 ·simp only[hd]at h1;refine⟨λe=>?_,λhl=>?_⟩
  ·simp[e]at h1
  ·have:=K5 hl;simp[this]at h1
 ·simp only[hd]at h2;have:=K5 hl;simp[this]at h2
theorem Bw {ops:Array Oper}{pre:List (List Nat)}(h:vH ops pre=true):JC ops (λj=>pre.getD j []):=by
 intro j o ho;have hj:j<ops.size:=(e7.1 ho).1;simp only[vH,cS,vV]at h;have:=h j hj;simp only[ho,bN,dO,yM]at this;obtain⟨⟨h1,h2⟩,_⟩:=this;have medge:∀e,e∈vG o↔∃ed∈o.after,Region.binds .any ed=true/\ed.on=e:=by
  intro e;simp only[vG];simp_all
 grind
theorem Bv {ops:Array Oper}{pre:List (List Nat)}(h:vH ops pre=true){tr:List aG}(hl:tr.length=ops.size)(hf:A4 pre (tr.map aG.jC)=true):
  ∀i j,i<j->j<ops.size->i∈(λj=>pre.getD j []) j\/vS ops (λi=>tr.getD i ⟨.any,[],[]⟩) i j:=by
 intro i j hij hj;simp only[vH,cS,vV]at h;have h1:=h j hj;simp only[A4,cS,vV,vW,hl]at hf;have h2:=hf j hj i hij;have hoj:ops[j]? =some ops[j]:=iV hj;have hoi:ops[i]? =some ops[i]:=iV (by omega);simp only[hoj,bN,cS,vV]at h1;have h3:=h1.2 i hij;simp only[hoi,pG,List.contains_iff_mem]at h3;simp only[pG,List.contains_iff_mem,bN]at h2;rcases h3 with h3|h3
 ·exact .inl h3
 rcases h2 with h2|h2
 ·exact .inl h2
 refine .inr ?_;have hn:=WX (ops:=ops) (x:=ops[i]) (y:=ops[j]) (by simpa using h3);have ei:(tr.map aG.jC).getD i ([],[])=(tr.getD i ⟨.any,[],[]⟩).jC:=by
  simp[bL (show i<tr.length by omega)]
 have ej:(tr.map aG.jC).getD j ([],[])=(tr.getD j ⟨.any,[],[]⟩).jC:=by
  simp[bL (show j<tr.length by omega)]
 rw[ei,ej]at h2;obtain⟨⟨q1,q2⟩,q3⟩:=h2;refine⟨λd hd=>?_,λd hd o ho=>?_,λb hb=>?_,λb hb=>?_⟩
 ·simp only[hoi]at hd;refine⟨by simpa[hoj]using(hn.1 d hd).1,λo ho=>?_⟩;rw[hoj]at ho;cases ho;exact(hn.1 d hd).2
 ·simp only[hoj]at hd;rw[hoi]at ho;cases ho;exact hn.2 d hd
 ·have:=(yQ _ _).1 hb;refine⟨?_,FR q1 this⟩;have hnot:=FR q2 this;cases hw:wrote (tr.getD j ⟨.any,[],[]⟩).wr b with
  |none=>rfl
  |some k=>exact absurd ((yQ _ _).1 (by rw[hw];rfl)) hnot
 ·exact FR q3 ((yQ _ _).1 hb)
def wS (f:Fn)(a b:List AV):AV:=match kM a,kM b with
 |some x,some y=>.d (.fn f x y)
 |_,_=>.fn f a b
theorem XL {σ:Names}{I:Nat->Prop}{w:World}{f:Fn}{a b:List AV}{v:Value}(h:RV σ I w (.fn f a b) v):RV σ I w (wS f a b) v:=by
 unfold wS;split
 ·rename_i x y hx hy;have ex:=mZ hx;have ey:=mZ hy;subst ex;subst ey;cases h with
  |fn l1 l2 h1 h2=>
   refine .d (.fn (by simpa using l1) (by simpa using l2) (λi c u k1 k2=>?_) (λi c u k1 k2=>?_))
   ·cases h1 i (.d c) u (by simp[k1]) k2 with
    |d h=>exact h
   ·cases h2 i (.d c) u (by simp[k1]) k2 with
    |d h=>exact h
 ·exact h
theorem VS {P:Program}{o:Oper}{f:Fn}{first captured:Array Operand}(ho:o.op=.makeFunc f first captured)(tm:Nat->AV)(m:Mem)(nm:Nat):
  aO P o tm m nm (wS f (first.toList.map (ev tm)) (captured.toList.map (ev tm))) m:=
 λa w σ I h1 h2 h3 h4 next Q hn=>VY ho tm m nm a w σ I h1 h2 h3 h4 next Q (λv σ' I' w' hp hv=>hn v σ' I' w' hp (XL hv))
def x6 (P:Program)(o:Oper)(tm:Nat->AV)(mem:Mem)(nm:Nat):Option aG:=
 match o.op with
 |.move x=>some ⟨ev tm x,[],[]⟩
 |.assign x=>some ⟨ev tm x,[],[]⟩
 |.pick c x y=>match ev tm c with
  |.d (.v (.bool t))=>some ⟨qU t (ev tm x) (ev tm y),[],[]⟩
  |_=>none
 |.alloc T=>match aH P T with
  |some ti=>some ⟨.ptr nm 0,[],[(nm,some (.cells (ti.zero.map λv=>.d (.v v)) T))]⟩
  |none=>none
 |.box T x=>match cellsOf (ev tm x)with
  |some cs=>some ⟨.ptr nm 0,[],[(nm,some (.cells cs T))]⟩
  |none=>none
 |.load T x=>match aH P T with
  |some ti=>qX ti.agg ti.sz mem (ev tm x)
  |none=>none
 |.store T a x=>match aH P T with
  |some ti=>yZ ti.sz mem (ev tm x) (ev tm a)
  |none=>none
 |.binOp op T x y _=>match aH P T with
  |some ti=>match BW op ti (ev tm x) (ev tm y)with
   |some r=>some ⟨r,[],[]⟩
   |none=>none
  |none=>none
 |.unOp op _ x=>match yT op (ev tm x)with
  |some r=>some ⟨r,[],[]⟩
  |none=>none
 |.fieldAddr T x f=>match aH P T with
  |some ti=>match BD P ti f with
   |some off=>match tM off (ev tm x)with
    |some r=>some ⟨r,[],[]⟩
    |none=>none
   |none=>none
  |none=>none
 |.field T x f=>match aH P T with
  |some ti=>match ti.k with
   |.dD fs=>match fs[f]? with
    |some (off,t,_)=>match aH P t,sH (ev tm x)with
     |some tf,some cs=>match lM tf.agg tf.sz off cs with
      |some r=>some ⟨r,[],[]⟩
      |none=>none
     |_,_=>none
    |none=>none
   |_=>none
  |none=>none
 |.indexAddr T x i=>match aH P T with
  |some ti=>match ti.k with
   |.arr n E=>match aH P E with
    |some te=>tI (.arr n E) te.sz mem (ev tm x) (ev tm i)
    |none=>none
   |.dA E=>match aH P E with
    |some te=>tI (.dA E) te.sz mem (ev tm x) (ev tm i)
    |none=>none
   |_=>none
  |none=>none
 |.index T x i=>match aH P T with
  |some ti=>match ti.k with
   |.arr n E=>match aH P E with
    |some te=>match AY n te.agg te.sz (ev tm x) (ev tm i)with
     |some r=>some ⟨r,[],[]⟩
     |none=>none
    |none=>none
   |.str=>match AX (ev tm x) (ev tm i)with
    |some r=>some ⟨r,[],[]⟩
    |none=>none
   |_=>none
  |none=>none
 |.extract x i=>match ev tm x with
  |.bC vs=>match vs[i]? with
   |some r=>some ⟨r,[],[]⟩
   |none=>none
  |_=>none
 |.build T parts=>match aH P T with
  |some ti=>if AO P ti.k=true then match BU P ti (parts.toList.map λp=>(p.1,ev tm p.2))with
    |some r=>some ⟨r,[],[]⟩
    |none=>none
   else none
  |none=>none
 |.nilCheck x=>if D0 (ev tm x)=true then some ⟨ev tm x,[],[]⟩else none
 |.makeInterface T x=>match aH P T with
  |some ti=>if BK ti.k=true then some ⟨D5 T (ev tm x),[],[]⟩else none
  |none=>none
 |.makeFunc f first captured=>some ⟨wS f (first.toList.map (ev tm)) (captured.toList.map (ev tm)),[],[]⟩
 |.call c=>match c.callee with
  |.builtin .min=>match z8 (c.args.toList.map (ev tm))with
   |some r=>some ⟨r,[],[]⟩
   |none=>none
  |.builtin .max=>match AA (c.args.toList.map (ev tm))with
   |some r=>some ⟨r,[],[]⟩
   |none=>none
  |.builtin .len=>match c.argTypes[0]?,c.args[0]? with
   |some T,some x=>match aH P T with
    |some ti=>u5 ti.k mem (ev tm x)
    |none=>none
   |_,_=>none
  |_=>none
 |_=>none
theorem aG.JA {r:AV}{m:Mem}:(aG.mk r [] []).mr m=(λ_=>none)/\(aG.mk r [] []).mw m=λ_=>none:=by
 constructor<;>(funext b;simp[aG.mr,aG.mw,wrote])
theorem aO.lK {P:Program}{o:Oper}{tm:Nat->AV}{mem:Mem}{nm:Nat}{r:AV}(h:aO P o tm (λ_=>none) nm r (λ_=>none)):
  aO P o tm ((aG.mk r [] []).mr mem) nm r ((aG.mk r [] []).mw mem):=by
 rw[aG.JA.1,aG.JA.2];exact h
theorem Gs {P:Program}{o:Oper}{tm:Nat->AV}{mem:Mem}{nm:Nat}{e:aG}(h:x6 P o tm mem nm=some e):aO P o tm (e.mr mem) nm e.res (e.mw mem):=by
 unfold x6 at h;split at h
 ·cases h;exact .lK (JY (.inl ‹_›) tm _ nm)
 ·cases h;exact .lK (JY (.inr ‹_›) tm _ nm)
 ·split at h
  ·cases h;exact .lK (VO ‹_› tm _ nm ‹_›)
  ·cases h
 ·split at h
  ·cases h;exact WL ‹_› tm mem nm ‹_›
  ·cases h
 ·split at h
  ·cases h;exact WI ‹_› tm mem nm ‹_›
  ·cases h
 ·split at h
  ·exact JZ ‹_› tm mem nm ‹_› h
  ·cases h
 ·split at h
  ·exact VL ‹_› tm mem nm ‹_› h
  ·cases h
 ·split at h
  ·split at h
   ·cases h;exact .lK (WJ ‹_› tm _ nm ‹_› ‹_›)
   ·cases h
  ·cases h
 ·split at h
  ·cases h;exact .lK (VI ‹_› tm _ nm ‹_›)
  ·cases h
 ·split at h
  ·split at h
   ·split at h
    ·cases h;exact .lK (V5 ‹_› tm _ nm ‹_› ‹_› ‹_›)
    ·cases h
   ·cases h
  ·cases h
 ·split at h
  ·split at h
   ·split at h
    ·split at h
     ·split at h
      ·cases h;exact .lK (V6 ‹_› tm _ nm ‹_› ‹_› ‹_› ‹_› ‹_› ‹_›)
      ·cases h
     ·cases h
    ·cases h
   ·cases h
  ·cases h
 ·split at h
  ·split at h
   ·split at h
    ·rename_i n E hk _ _ _;exact DU ‹_› tm mem nm ‹_› (.inl ⟨_,hk⟩) ‹_› (by rw[hk];exact h)
    ·cases h
   ·split at h
    ·rename_i E hk _ _ _;exact DU ‹_› tm mem nm ‹_› (.inr hk) ‹_› (by rw[hk];exact h)
    ·cases h
   ·cases h
  ·cases h
 ·split at h
  ·split at h
   ·split at h
    ·split at h
     ·cases h;exact .lK (V4 ‹_› tm _ nm ‹_› ‹_› ‹_› ‹_›)
     ·cases h
    ·cases h
   ·split at h
    ·cases h;exact .lK (V2 ‹_› tm _ nm ‹_› ‹_› ‹_›)
    ·cases h
   ·cases h
  ·cases h
 ·split at h
  ·split at h
   ·cases h;exact .lK (V7 ‹_› tm _ nm ‹_› ‹_›)
   ·cases h
  ·cases h
 ·split at h
  ·split at h
   ·split at h
    ·cases h;exact .lK (WH ‹_› tm _ nm ‹_› ‹_› ‹_›)
    ·cases h
   ·cases h
  ·cases h
 ·split at h
  ·cases h;exact .lK (VP ‹_› tm _ nm ‹_›)
  ·cases h
 ·split at h
  ·split at h
   ·cases h;exact .lK (VX ‹_› tm _ nm ‹_› ‹_›)
   ·cases h
  ·cases h
 ·cases h;exact .lK (VS ‹_› tm _ nm)
 ·split at h
  ·split at h
   ·cases h;exact .lK (VT ‹_› ‹_› tm _ nm ‹_›)
   ·cases h
  ·split at h
   ·cases h;exact .lK (VU ‹_› ‹_› tm _ nm ‹_›)
   ·cases h
  ·split at h
   ·split at h
    ·exact J1 ‹_› ‹_› tm mem nm ‹_› ‹_› ‹_› h
    ·cases h
   ·cases h
  ·cases h
 ·cases h
def qS (σ:Names)(p:Nat):Prop:=∃m,σ p=some (.pointer (some ⟨m,0,none⟩))
def gr (σ:Names):aN->aN
 |.cQ ps T=>.grow 1 (ps.map λb=>[.v ((σ b).getD undef)]) T
 |k=>k
def gm (σ:Names)(m:Mem):Mem:=λb=>(m b).map (gr σ)
theorem UH {σ:Names}{I:Nat->Prop}{w:World}{k:aN}{v:Value}(h:RB σ I w k v):RB σ I w (gr σ k) v:=by
 cases h with
 |oV=>exact .none
 |n3 a=>exact .emp a
 | @cQ ps T n cap arr hw hl hcap hmax hr=>
   have:=RB.grow (σ:=σ) (I:=I) (w:=w) (sz:=1) (es:=ps.map λb=>[D.v ((σ b).getD undef)]) (T:=T) (n:=n) (cap:=cap+1) (arr:=arr) hw (by omega) (by simpa using hcap) hmax (by simp) (λi e j c h1 h2=>by
    rw[fN]at h1;obtain⟨b,hb,rfl⟩:=iU.1 h1;cases j with
    |succ j=>simp at h2
    |zero=>
     simp at h2;subst h2;obtain⟨m,q1,q2⟩:=hr i b hb;refine⟨.pointer (some ⟨m,0,none⟩),by simpa using q2,?_,rfl⟩;rw[q1];exact .v _)
   simpa[gr]using this
 |cells h1 h2 h3=>exact .cells h1 h2 h3
 |none=>exact .none
 |emp a=>exact .emp a
 |grow h1 h2 h3 h4 h5 h6=>exact .grow h1 h2 h3 h4 h5 h6
 |map keys vals h1 hb hk hu hl hv=>exact .map keys vals h1 hb hk hu hl hv
 |iL keys vals h1 hst hb hkc hfk hk hu hl hv=>exact .iL keys vals h1 hst hb hkc hfk hk hu hl hv
 |cL h1 h2=>exact .cL h1 h2
 |iter h1 h2=>exact .iter h1 h2
theorem UG {σ σ':Names}{I:Nat->Prop}{w:World}{k:aN}{v:Value}(hk:∀ps T,k=.cQ ps T->∀p∈ps,qS σ p)(hσ:∀b x,σ b=some x->σ' b=some x)(h:RB σ' I w (gr σ k) v):RB σ' I w k v:=by
 cases k with
 |cQ ps T=>
  simp only[gr]at h;generalize hq:(ps.map λb=>[D.v ((σ b).getD undef)])=es at h;cases h with
  |none=>
   obtain rfl:ps=[]:=List.map_eq_nil_iff.1 hq;exact .oV
  |emp a=>
   obtain rfl:ps=[]:=List.map_eq_nil_iff.1 hq;exact .n3 a
  | @grow _ _ _ n cap arr h1 h2 h3 h4 h5 h6=>
    subst hq;rw[vW]at h3⊢;cases cap with
    |zero=>
     obtain rfl:ps=[]:=gX (by omega);exact .n3 _
    |succ cap=>
     refine .cQ h1 (by omega) h3 h4 (λi b hi=>?_);obtain⟨m,hm⟩:=hk ps T rfl b (gI hi);obtain⟨x,g1,g2,_⟩:=h6 i [D.v ((σ b).getD undef)] 0 (D.v ((σ b).getD undef)) (by rw[fN,hi];rfl) rfl;rw[hm]at g2;cases g2;exact⟨m,hσ _ _ hm,by simpa using g1⟩
 |_=>exact h
theorem zM {σ σ0:Names}{m:Mem}{n:Nat}:cR σ (gm σ0 m) n↔cR σ m n:=by
 constructor
 ·rintro⟨b,k,x,h1,h2,h3⟩;obtain⟨k',hk',_⟩:=iU.1 h1;exact⟨b,k',x,hk',h2,h3⟩
 ·rintro⟨b,k,x,h1,h2,h3⟩;exact⟨b,gr σ0 k,x,by simp[gm,h1],h2,h3⟩
theorem TJ {σ:Names}{I:Nat->Prop}{w:World}{m:Mem}(h:RM σ I w m):RM σ I w (gm σ m):=by
 refine⟨λb k hk=>?_,λb b' k k' x x' n h1 h2 h3 h4 h5 h6=>?_⟩
 ·obtain⟨k',hk',rfl⟩:=iU.1 hk;obtain⟨x,p,q,r⟩:=h.aS b k' hk';exact⟨x,p,UH q,r⟩
 ·obtain⟨q,hq,_⟩:=iU.1 h1;obtain⟨q',hq',_⟩:=iU.1 h2;exact h.apart b b' q q' x x' n hq hq' h3 h4 h5 h6
theorem TH {σ:Names}{I:Nat->Prop}{w:World}{m:Mem}(h:RM σ I w m){b:Nat}{ps:List Nat}{T:TypeId}(hb:m b=some (.cQ ps T)):∀p∈ps,qS σ p:=by
 obtain⟨x,_,hr,_⟩:=h.aS b _ hb;intro p hp;cases hr with
 |oV=>cases hp
 |n3 a=>cases hp
 |cQ _ _ _ _ h5=>
  obtain⟨i,hi⟩:=List.mem_iff_getElem?.1 hp;obtain⟨m,q,_⟩:=h5 i p hi;exact⟨m,q⟩
theorem cB.P2 {σ:Names}{I:Nat->Prop}{w:World}{mr mw:Mem}{nm:Nat}{σ':Names}{I':Nat->Prop}{w':World}(hk:∀b ps T,mw b=some (.cQ ps T)->∀p∈ps,qS σ p)
  (h:cB σ I w (gm σ mr) nm σ' I' w' (gm σ mw)):cB σ I w mr nm σ' I' w' mw:=by
 refine⟨h.os,h.tape,h.output,h.size,h.names,h.new,h.pV,h.ib,λn hn=>?_,λn h1 h2=>h.frame n h1 (λho=>h2 (zM.1 ho)),⟨λb k hb=>?_,λb b' k k' x x' n h1 h2 h3 h4 h5 h6=>?_⟩,λb k hb=>?_,λn hn=>?_⟩
 ·rcases h.fB n hn with g|g|g
  ·exact .inl g
  ·omega
  ·exact .inr (.inr (zM.1 g))
 ·obtain⟨x,p,q,r⟩:=h.mem.aS b (gr σ k) (by simp[gm,hb]);exact⟨x,p,UG (λps T e=>hk b ps T (e▸hb)) h.names q,r⟩
 ·exact h.mem.apart b b' (gr σ k) (gr σ k') x x' n (by simp[gm,h1]) (by simp[gm,h2]) h3 h4 h5 h6
 ·rcases h.p8 b (gr σ k) (by simp[gm,hb])with g|g
  ·exact .inl (λe=>g (by simp[gm,e]))
  ·exact .inr g
 ·rcases h.eM n (zM.2 hn)with g|g
  ·exact .inl (zM.1 g)
  ·exact .inr g
theorem aO.gp {P:Program}{o:Oper}{tm:Nat->AV}{mr mw:Mem}{nm:Nat}{res:AV}
  (h:∀σ:Names,(∀b ps T,mr b=some (.cQ ps T)->∀p∈ps,qS σ p)->(∀t q off,Operand.tmp t∈o.op.operands->tm t=.ptr q off->qS σ q)->
    ∃(tm':Nat->AV) (res':AV),aO P o tm' (gm σ mr) nm res' (gm σ mw)/\(∀I w t v,Operand.tmp t∈o.op.operands->RV σ I w (tm t) v->RV σ I w (tm' t) v)/\(∀σ' I w v,(∀b x,σ b=some x->σ' b=some x)->RV σ' I w res' v->RV σ' I w res v))
  (hw:∀b ps T,mw b=some (.cQ ps T)->∀p∈ps,(∃b' ps' T',mr b'=some (.cQ ps' T')/\p∈ps')\/∃t off,Operand.tmp t∈o.op.operands/\tm t=.ptr p off):aO P o tm mr nm res mw:=by
 intro a w σ I hib hop hm hfree next Q hnext;have k1:∀b ps T,mr b=some (.cQ ps T)->∀p∈ps,qS σ p:=λb ps T hb=>TH hm hb;have k2:∀t q off,Operand.tmp t∈o.op.operands->tm t=.ptr q off->qS σ q:=by
  intro t q off ht e;have:=hop t ht;rw[e]at this;generalize a.tmps.getD t undef=v at this;cases this with
  |ptr h=>exact⟨_,h⟩
 obtain⟨tm',res',h1,h2,h3⟩:=h σ k1 k2;refine h1 a w σ I hib (λt ht=>h2 I w t _ ht (hop t ht)) (TJ hm) hfree next Q (λv σ' I' w' hp hv=>hnext v σ' I' w' (cB.P2 (λb ps T hb p hpp=>?_) hp) (h3 σ' I' w' v hp.names hv))
 grind
def aG.gr (e:aG)(σ:Names)(r:AV):aG:=⟨r,e.rd,e.wr.map λp=>(p.1,p.2.map (Go.AI.gr σ))⟩
theorem CQ (σ:Names)(b:Nat):∀l:List (Nat×Option aN),wrote (l.map λp=>(p.1,p.2.map (gr σ))) b=(wrote l b).map (Option.map (gr σ))
 |[]=>rfl
 | (c,k)::r=>by
   simp only[fM,wrote];split
   ·rfl
   ·exact CQ σ b r
theorem XK (e:aG)(σ:Names)(r:AV)(m:Mem):(e.gr σ r).mr (gm σ m)=gm σ (e.mr m):=by
 funext b
 simp only[aG.mr,aG.gr,CQ,gm];cases wrote e.wr b<;>simp<;>split<;>simp_all
theorem XI (e:aG)(σ:Names)(r:AV)(m:Mem):(e.gr σ r).mw (gm σ m)=gm σ (e.mw m):=by
 funext b
 simp only[aG.mw,aG.gr,CQ,gm]
 grind
theorem aO.xB {P:Program}{o:Oper}{tm:Nat->AV}{mem:Mem}{nm:Nat}{e:aG}
  (h:∀σ:Names,(∀b ps T,mem b=some (.cQ ps T)->b∈e.rd\/(wrote e.wr b).isSome->∀p∈ps,qS σ p)->(∀t q off,Operand.tmp t∈o.op.operands->tm t=.ptr q off->qS σ q)->
    ∃(tm':Nat->AV) (res':AV),aO P o tm' ((e.gr σ res').mr (gm σ mem)) nm res' ((e.gr σ res').mw (gm σ mem))/\(∀I w t v,Operand.tmp t∈o.op.operands->RV σ I w (tm t) v->RV σ I w (tm' t) v)/\(∀σ' I w v,(∀b x,σ b=some x->σ' b=some x)->RV σ' I w res' v->RV σ' I w e.res v))
  (hw:∀b ps T,(b,some (aN.cQ ps T))∈e.wr->∀p∈ps,(∃b' ps' T',mem b'=some (.cQ ps' T')/\(b'∈e.rd\/(wrote e.wr b').isSome)/\p∈ps')\/∃t off,Operand.tmp t∈o.op.operands/\tm t=.ptr p off):aO P o tm (e.mr mem) nm e.res (e.mw mem):=by
 have wm:∀(l:List (Nat×Option aN)) b k,wrote l b=some k->(b,k)∈l:=by
  intro l;induction l with
  |nil=>intro b k h;cases h
  |cons p l ih=>
   intro b k h;simp only[wrote]at h
   grind
 refine aO.gp (λσ k1 k2=>?_) (λb ps T hb p hp=>?_)
 ·obtain⟨tm',res',h1,h2,h3⟩:=h σ (λb ps T hb hc=>k1 b ps T (by rw[aG.mr,bA hc.symm];exact hb)) k2;rw[XK,XI]at h1;exact⟨tm',res',h1,h2,h3⟩
 ·simp only[aG.mw]at hb;split at hb
  ·rename_i k hk;subst hb;rcases hw b ps T (wm _ _ _ hk) p hp with⟨b',ps',T',q1,q2,q3⟩|q
   ·exact .inl ⟨b',ps',T',by rw[aG.mr,bA q2.symm];exact q1,q3⟩
   ·exact .inr q
  ·split at hb
   ·rename_i hc;exact .inl ⟨b,ps,T,by rw[aG.mr,bA (.inr hc)];exact hb,hp⟩
   ·cases hb
section
variable {P : Program} {o : Oper} {tm : Nat -> AV} {mem : Mem} {nm : Nat}
theorem V1 {c:Call}(ho:o.op=.call c)(hc:c.callee=.builtin .len){T E:TypeId}(hT:c.argTypes[0]? =some T){ti:TI}(hti:aH P T=some ti)(hk:ti.k=.dA E){x:Operand}(hx:c.args[0]? =some x)
  {b:Nat} {ps:List Nat} {U:TypeId} (hv:ev tm x=.own b) (hb:mem b=some (.cQ ps U)):
  aO P o tm ((aG.mk (.d (.v (.int .i64 ps.length))) [b] []).mr mem) nm (.d (.v (.int .i64 ps.length))) ((aG.mk (.d (.v (.int .i64 ps.length))) [b] []).mw mem):=by
 refine aO.xB (e:=⟨.d (.v (.int .i64 ps.length)),[b],[]⟩) (λσ _ _=>⟨tm,.d (.v (.int .i64 ps.length)),?_,λ_ _ _ _ _ h=>h,λ_ _ _ _ _ h=>h⟩) (λ_ _ _ h=>by cases h);refine J1 ho hc tm (gm σ mem) nm hT hti hx (e:=⟨_,[b],[]⟩) ?_;rw[hv,hk];simp[u5,gm,hb,gr]
theorem V3 {T E:TypeId}{x i:Operand}(ho:o.op=.indexAddr T x i){ti:TI}(hT:aH P T=some ti)(hk:ti.k=.dA E){te:TI}(hTe:aH P E=some te)(hz:te.sz=1)
  {b j:Nat} {ps:List Nat} {U:TypeId} (hv:ev tm x=.own b) (hi:ev tm i=.d (.v (.int .i64 j))) (hb:mem b=some (.cQ ps U)) (hj:j<ps.length):
  aO P o tm ((aG.mk (.dM b 1 j 0) [b] []).mr mem) nm (.dM b 1 j 0) ((aG.mk (.dM b 1 j 0) [b] []).mw mem):=by
 refine aO.xB (e:=⟨.dM b 1 j 0,[b],[]⟩) (λσ _ _=>⟨tm,.dM b 1 j 0,?_,λ_ _ _ _ _ h=>h,λ_ _ _ _ _ h=>h⟩) (λ_ _ _ h=>by cases h);refine DU ho tm (gm σ mem) nm hT (.inr hk) hTe (e:=⟨_,[b],[]⟩) ?_;rw[hv,hi,hk,hz];simp[tI,gm,hb,gr,hj]
theorem V0 {T:TypeId}{x:Operand}(ho:o.op=.load T x){ti:TI}(hT:aH P T=some ti)(hg:ti.agg=false)
  {b j p:Nat} {ps:List Nat} {U:TypeId} (hv:ev tm x=.dM b 1 j 0) (hb:mem b=some (.cQ ps U)) (hj:ps[j]? =some p):
  aO P o tm ((aG.mk (.ptr p 0) [b] []).mr mem) nm (.ptr p 0) ((aG.mk (.ptr p 0) [b] []).mw mem):=by
 refine aO.xB (e:=⟨.ptr p 0,[b],[]⟩) (λσ k1 _=>⟨tm,.d (.v ((σ p).getD undef)),?_,λ_ _ _ _ _ h=>h,λσ' I w v hσ h=>?_⟩) (λ_ _ _ h=>by cases h)
 ·refine JZ ho tm (gm σ mem) nm hT (e:=⟨_,[b],[]⟩) ?_;rw[hv,hg];simp[qX,gm,hb,gr,hj,lM]
 ·obtain⟨m,hm⟩:=k1 b ps U hb (.inl (by simp)) p (gI hj);rw[hm]at h;rw[cH h];exact .ptr (hσ _ _ hm)
def vp (σ:Names):AV->AV
 |.ptr q 0=>.d (.v ((σ q).getD undef))
 |a=>a
theorem PU {σ:Names}{I:Nat->Prop}{w:World}{a:AV}{v:Value}(h:RV σ I w a v):RV σ I w (vp σ a) v:=by
 unfold vp;split
 ·rename_i q;cases h with
  |ptr h=>rw[h];exact .d (.v _)
 ·exact h
theorem WG {T E:TypeId}{t:Nat}(ho:o.op=.buildSlice T 1 #[(0,.tmp t)]){ti te:TI}(hT:aH P T=some ti)(hk:ti.k=.dA E)(hE:aH P E=some te)(hz:te.sz=1)(hz0:te.zero.length=1){p:Nat}(hv:tm t=.ptr p 0):
  aO P o tm ((aG.mk (.own nm) [] [(nm,some (.cQ [p] E))]).mr mem) nm (.own nm) ((aG.mk (.own nm) [] [(nm,some (.cQ [p] E))]).mw mem):=by
 have hop:Operand.tmp t∈o.op.operands:=by simp[ho,Op.operands]
 refine aO.xB (e:=⟨.own nm,[],[(nm,some (.cQ [p] E))]⟩) (λσ _ k2=>⟨λs=>vp σ (tm s),.own nm,?_,λ_ _ _ _ _ h=>PU h,λ_ _ _ _ _ h=>h⟩) (λb ps T' h q hq=>?_)
 ·obtain⟨m,hm⟩:=k2 t p 0 hop hv;obtain⟨z,hzz⟩:∃z,te.zero=[z]:=List.length_eq_one_iff.1 hz0;refine J4 ho (λs=>vp σ (tm s)) (gm σ mem) nm hT hk hE (sc:=True) (e:=(aG.mk (.own nm) [] [(nm,some (.cQ [p] E))]).gr σ (.own nm)) ?_;simp[ev,hv,vp,hm,hz,hzz,aG.gr,gr,xV,pX,chunk,kM,rQ,rY,cellsOf,lay,Value.oneCell']
 ·grind
theorem J6 {c:Call}(ho:o.op=.call c)(hc:c.callee=.builtin .append){T U:TypeId}(hT:c.argTypes=#[T,U]){x y:Operand}(hx:c.args=#[x,y]){E:TypeId}{ti te:TI}(hti:aH P T=some ti)(hk:ti.k=.dA E)(hte:aH P E=some te)
  (hb0:0<te.bytes) (hz0:te.zero.length=te.sz) (hz:te.sz=1) (hU:∃e,P.underlying U=some (.slice e)) {a:Option Nat} {b:Nat} {ps qs:List Nat}
  (hv:(ev tm x=.d (.v (.slice none 0 0))/\a=none/\ps=[])\/∃a',ev tm x=.own a'/\a=some a'/\mem a'=some (.cQ ps E)) (hv2:ev tm y=.own b) (hb:mem b=some (.cQ qs E)) (hs:(ps.length+qs.length)*te.bytes<=140737488355328):
  aO P o tm ((aG.mk (.own nm) [b] ((nm,some (.cQ (ps++qs) E))::a.toList.map λa=>(a,none))).mr mem) nm (.own nm) ((aG.mk (.own nm) [b] ((nm,some (.cQ (ps++qs) E))::a.toList.map λa=>(a,none))).mw mem):=by
 refine aO.xB (e:=⟨.own nm,[b],(nm,some (.cQ (ps++qs) E))::a.toList.map λa=>(a,none)⟩) (λσ _ _=>⟨tm,.own nm,?_,λ_ _ _ _ _ h=>h,λ_ _ _ _ _ h=>h⟩) (λd rs T' h q hq=>?_)
 ·have e1:(aG.mk (.own nm) [b] ((nm,some (.cQ (ps++qs) E))::a.toList.map λa=>(a,none))).gr σ (.own nm)=⟨.own nm,[b],(nm,some (.grow te.sz ((ps.map λb=>[.v ((σ b).getD undef)])++(qs.map λb=>[.v ((σ b).getD undef)])) E))::a.toList.map λa=>(a,none)⟩:=by
   simp[aG.gr,gr,hz]
  rw[e1];have hl:∀l:List Nat,gL (l.map λb=>[D.v ((σ b).getD undef)]) te.sz:=by
   intro l e he
   grind
  have hd:tR te.sz E (gm σ mem) (ev tm x)=some (ps.map (λb=>[.v ((σ b).getD undef)]),a.isNone,a):=by
   rcases hv with⟨h1,rfl,rfl⟩|⟨a',h1,rfl,h2⟩
   ·rw[h1];simp[tR]
   ·rw[h1];simp[tR,gm,h2,gr,hz]
  have hsrc:xZ false te.sz (gm σ mem) (ev tm y)=some (qs.map (λb=>[.v ((σ b).getD undef)]),[b]):=by
   rw[hv2];simp[xZ,uQ,gm,hb,gr,hz]
  obtain⟨sc,e2,he,hsc,hee⟩:∃sc e2,tV false te.sz te.bytes E (gm σ mem) nm (ev tm x) (ev tm y)=some (sc,e2)/\sc/\e2=⟨.own nm,[b],(nm,some (.grow te.sz ((ps.map λb=>[.v ((σ b).getD undef)])++(qs.map λb=>[.v ((σ b).getD undef)])) E))::a.toList.map λa=>(a,none)⟩:=by
   unfold tV;rw[hd,hsrc];refine⟨_,_,rfl,⟨λhf=>.inl ?_,hl ps,hl qs,by simpa using hs⟩,rfl⟩;rcases hv with⟨_,_,rfl⟩|⟨a',_,rfl,_⟩
   ·rfl
   ·simp at hf
  subst hee;exact DV ho hc tm (gm σ mem) nm hT hx hti hk hte hb0 hz0 (str:=false) (by simpa using hU) he hsc
 ·simp at h;obtain⟨rfl,rfl,rfl⟩:=h;rcases fZ.1 hq with g|g
  ·rcases hv with⟨_,_,rfl⟩|⟨a',_,rfl,h2⟩
   ·cases g
   ·exact .inl ⟨a',_,_,h2,.inr (by simp[wrote];split<;>simp),g⟩
  ·exact .inl ⟨b,_,_,hb,.inl (by simp),g⟩
end
end Go.AI
namespace Go.AI
open Classical
def ER (P:Program)(T:TypeId)(ka:Bool)(ks:List CK):Bool:=
 decide (jZ P 8 T=some ks)&&AT P T&&decide (ks.length=bS P T)&&(match P.underlying T with
  |some d=>decide (eV d=ka)&&(ka|| (match d,ks with|.int _,[.int]=>true|.bool,[.bool]=>true|.string,[.str]=>true|_,_=>false))
  |none=>false)
theorem YP {P:Program}{T:TypeId}{ka:Bool}{ks:List CK}(h:ER P T ka ks=true):pR P T ka ks:=by
 simp only[ER,bN,dO]at h;obtain⟨⟨⟨h1,h2⟩,h3⟩,h4⟩:=h;refine⟨h1,h2,h3,?_⟩
 grind
structure MI where
 K:TypeId
 E:TypeId
 ka:Bool
 ks:List CK
 te:TI
def nX (P:Program)(T:TypeId):Option MI:=
 match aH P T with
 |some ti=>match ti.k with
  |.map K E=>match aH P K,aH P E with
   |some tk,some te=>match tk.fl with
    |some ks=>if ER P K tk.agg ks then some ⟨K,E,tk.agg,ks,te⟩else none
    |none=>none
   |_,_=>none
  |_=>none
 |none=>none
theorem u4 {P:Program}{T:TypeId}{mi:MI}(h:nX P T=some mi):∃ti,aH P T=some ti/\ti.k=.map mi.K mi.E/\aH P mi.E=some mi.te/\pR P mi.K mi.ka mi.ks:=by
 unfold nX at h;split at h
 case h_2=>cases h
 rename_i ti hti;split at h
 case h_2=>cases h
 rename_i K E hk;split at h
 case h_2=>cases h
 rename_i tk te htk hte;split at h
 case h_2=>cases h
 split at h
 ·rename_i hb;cases h;exact⟨ti,hti,hk,hte,YP hb⟩
 ·cases h
def oB (P:Program)(T:TypeId):Option (TypeId×TI):=
 match aH P T with
 |some ti=>match ti.k with
  |.dA E=>match aH P E with
   |some te=>some (E,te)
   |none=>none
  |_=>none
 |none=>none
theorem rD {P:Program}{T E:TypeId}{te:TI}(h:oB P T=some (E,te)):∃ti,aH P T=some ti/\ti.k=.dA E/\aH P E=some te:=by
 unfold oB at h
 grind
noncomputable def x5 (P:Program)(o:Oper)(tm:Nat->AV)(mem:Mem)(nm:Nat):Option (Prop×aG):=
 match o.op with
 |.buildSlice T len parts=>match oB P T with
  |some (E,te)=>xV te.sz len te.zero E nm (parts.toList.map λp=>(p.1,ev tm p.2))
  |none=>none
 |.makeMap T none=>match nX P T with
  |some mi=>some (True,⟨.own nm,[],[(nm,some (.map mi.ka mi.ks mi.te.agg λ_=>none))]⟩)
  |none=>none
 |.range T x=>match aH P T,ev tm x with
  |some ti,.d (.v (.string s))=>if ti.k=.str then some (True,⟨.own nm,[],[(nm,some (.iter s 0))]⟩)else none
  |_,_=>none
 |.next x true=>zW mem (ev tm x)
 |.lookup T x k ok=>match nX P T with
  |some mi=>AE mi.te mi.ka mi.ks mem (ev tm x) (ev tm k) ok
  |none=>none
 |.mapUpdate T m k x=>match nX P T with
  |some mi=>wE mi.te mi.ka mi.ks mem (ev tm m) (ev tm k) (ev tm x)
  |none=>none
 |.insert T m k x=>match nX P T with
  |some mi=>wE mi.te mi.ka mi.ks mem (ev tm m) (ev tm k) (ev tm x)
  |none=>none
 |.convert S T x=>match aH P S,aH P T with
  |some ts,some td=>xR ts.k td.k (match ts.k with
   |.dA E=>match aH P E with
    |some te=>if te.sz=1 then some te.k else none
    |none=>none
   |_=>none) mem (ev tm x)
  |_,_=>none
 |.slice T x lo hi mx=>match aH P T with
  |some ti=>if mx.isSome=true/\hi.isSome=false then none else match ti.k with
   |.dA E=>match aH P E with
    |some te=>wJ (.dA E) te.sz mem (ev tm x) (lo.map (ev tm)) (hi.map (ev tm)) (mx.map (ev tm))
    |none=>none
   |.str=>wJ .str 0 mem (ev tm x) (lo.map (ev tm)) (hi.map (ev tm)) (mx.map (ev tm))
   |_=>none
  |none=>none
 |.makeSlice T l c=>match oB P T with
  |some (E,te)=>if te.zero.all Value.oneCell'=true then AD te E nm (ev tm l) (ev tm c)else none
  |none=>none
 |.typeAssert x _ T ok=>match aH P T with
  |some te=>yV (match te.k with|.iface _=>true|_=>false) T te ok (ev tm x)
  |none=>none
 |.binOp op T x y _=>match wK op (ev tm x) (ev tm y)with
  |some r=>some r
  |none=>match aH P T with
   |some ti=>zT op y ti.k mem (ev tm x)
   |none=>none
 |.call c=>match c.callee with
  |.builtin .append=>match c.argTypes.toList,c.args.toList with
   |[T,U],[x,y]=>match oB P T,aH P U with
    |some (E,te),some tu=>if 0<te.bytes/\te.zero.length=te.sz then match tu.k with
      |.str=>tV true te.sz te.bytes E mem nm (ev tm x) (ev tm y)
      |.dA _=>tV false te.sz te.bytes E mem nm (ev tm x) (ev tm y)
      |.int .i64=>if te.zero.all Value.oneCell'=true then B4 te E nm (ev tm x) (ev tm y)else none
      |_=>none
     else none
    |_,_=>none
   |_,_=>none
  |.builtin .cap=>match c.argTypes[0]?,c.args[0]? with
   |some T,some x=>match aH P T with
    |some ti=>BT ti.k (ev tm x)
    |none=>none
   |_,_=>none
  |.builtin .clear=>match c.argTypes[0]?,c.args[0]? with
   |some T,some x=>match oB P T with
    |some (E,te)=>if te.zero.all Value.oneCell'=true then BP te mem (ev tm x)else none
    |none=>none
   |_,_=>none
  |_=>none
 |_=>none
theorem qA {α:Type}{a:Array α}{x y:α}(h:a.toList=[x,y]):a=#[x,y]:=by
 cases a;simp at h;simp[h]
theorem Gu {P:Program}{o:Oper}{tm:Nat->AV}{mem:Mem}{nm:Nat}{sc:Prop}{e:aG}(h:x5 P o tm mem nm=some (sc,e))(hsc:sc):aO P o tm (e.mr mem) nm e.res (e.mw mem):=by
 unfold x5 at h;split at h
 ·split at h
  ·rename_i he;obtain⟨ti,h1,h2,h3⟩:=rD he;exact J4 ‹_› tm mem nm h1 h2 h3 h
  ·cases h
 ·split at h
  ·cases h;exact VW ‹_› rfl tm mem nm _ _ _ rfl
  ·cases h
 ·split at h
  ·rename_i ti s hti hx;split at h
   ·cases h;exact VN ‹_› tm mem nm hti ‹_› hx rfl
   ·cases h
  ·cases h
 ·exact VR ‹_› tm mem nm h
 ·split at h
  ·rename_i mi hmi;obtain⟨ti,h1,h2,h3,h4⟩:=u4 hmi;exact VZ ‹_› tm mem nm h1 h2 h3 h4 h hsc
  ·cases h
 ·split at h
  ·rename_i ho _ mi hmi;obtain⟨ti,h1,h2,h3,h4⟩:=u4 hmi;exact JW (.inl ho) tm mem nm h1 h2 h4 h hsc
  ·cases h
 ·split at h
  ·rename_i ho _ mi hmi;obtain⟨ti,h1,h2,h3,h4⟩:=u4 hmi;exact JW (.inr ho) tm mem nm h1 h2 h4 h hsc
  ·cases h
 ·split at h
  ·rename_i ts td hts htd;refine WC ‹_› tm mem nm hts htd (λE hE k hk=>?_) h hsc;rw[hE]at hk;simp only at hk;split at hk
   ·rename_i te hte;split at hk
    ·cases hk;exact⟨te,hte,rfl,‹_›⟩
    ·cases hk
   ·cases hk
  ·cases h
 ·split at h
  ·rename_i ho _ ti hti;split at h
   ·cases h
   ·rename_i hmh;have hmh':∀{mx hi:Option Operand},¬(mx.isSome=true/\hi.isSome=false)->mx≠none->hi≠none:=by
     intro mx hi h1 h2 h3;subst h3;cases mx with
     |none=>exact h2 rfl
     |some _=>exact h1 ⟨rfl,rfl⟩
    split at h
    ·rename_i E hk;split at h
     ·rename_i te hte;exact ok_slice (sz:=te.sz) ho (hmh' hmh) tm mem nm hti (λE' hE'=>by rw[hk]at hE';cases hE';exact⟨te,hte,rfl⟩) (by rw[hk];exact h) hsc
     ·cases h
    ·rename_i hk;exact ok_slice (sz:=0) ho (hmh' hmh) tm mem nm hti (λE' hE'=>by rw[hk]at hE';cases hE') (by rw[hk];exact h) hsc
    ·cases h
  ·cases h
 ·split at h
  ·rename_i he;obtain⟨ti,h1,h2,h3⟩:=rD he;split at h
   ·rename_i hz;exact VV ‹_› tm mem nm h1 h2 h3 (λx hx=>by simpa using cS.1 hz x hx) h hsc
   ·cases h
  ·cases h
 ·split at h
  ·rename_i te hte;refine VJ ‹_› tm mem nm hte (λha b hb=>?_) h;rw[hb]at ha;cases ha
  ·cases h
 ·split at h
  ·rename_i ho _ r hr;cases h;exact VM ho tm mem nm hr hsc
  ·split at h
   ·exact VQ ‹_› tm mem nm ‹_› h
   ·cases h
 ·rename_i c ho;split at h
  ·rename_i hcal;split at h
   ·rename_i T U x y hT hA;split at h
    ·rename_i E te tu he htu;obtain⟨ti,h1,h2,h3⟩:=rD he;split at h
     ·rename_i hc;split at h
      ·rename_i hk;exact DV (str:=true) ho hcal tm mem nm (qA hT) (qA hA) h1 h2 h3 hc.1 hc.2 (by simpa using wG htu hk) h hsc
      ·rename_i E' hk;exact DV (str:=false) ho hcal tm mem nm (qA hT) (qA hA) h1 h2 h3 hc.1 hc.2 (by simpa using⟨E',mH htu hk⟩) h hsc
      ·rename_i hk;split at h
       ·rename_i hz;exact WK ho hcal tm mem nm (qA hT) (qA hA) h1 h2 h3 htu hk (λx hx=>by simpa using cS.1 hz x hx) h hsc
       ·cases h
      ·cases h
     ·cases h
    ·cases h
   ·cases h
  ·rename_i hcal;split at h
   ·rename_i T x hT hx;split at h
    ·exact WE ho hcal tm mem nm hT ‹_› hx h
    ·cases h
   ·cases h
  ·rename_i hcal;split at h
   ·rename_i T x hT hx;split at h
    ·rename_i E te he;obtain⟨ti,h1,h2,h3⟩:=rD he;split at h
     ·rename_i hz;exact WD ho hcal tm mem nm hT h1 h2 h3 (λx hx=>by simpa using cS.1 hz x hx) hx h hsc
     ·cases h
    ·cases h
   ·cases h
  ·cases h
 ·cases h
noncomputable def x4 (P:Program)(o:Oper)(tm:Nat->AV)(mem:Mem)(nm:Nat):Option (Prop×aG):=
 match o.op with
 |.mapEntry T m k=>match nX P T with
  |some mi=>BF mi.te mi.ka mi.ks mem nm (ev tm m) (ev tm k)
  |none=>none
 |.entryStore _ m s x=>yY mem (ev tm m) (ev tm s) (ev tm x)
 |_=>none
theorem Gt {P:Program}{o:Oper}{tm:Nat->AV}{mem:Mem}{nm:Nat}{sc:Prop}{e:aG}(h:x4 P o tm mem nm=some (sc,e))(hsc:sc):aO P o tm (e.mr mem) nm e.res (e.mw mem):=by
 unfold x4 at h;split at h
 ·split at h
  ·rename_i mi hmi;obtain⟨ti,h1,h2,h3,h4⟩:=u4 hmi;exact WB ‹_› tm mem nm h1 h2 h3 h4 h hsc
  ·cases h
 ·exact V8 ‹_› tm mem nm h
 ·cases h
noncomputable def vM (P:Program)(o:Oper)(tm:Nat->AV)(mem:Mem)(nm:Nat):Option (Prop×aG):=
 match x5 P o tm mem nm with
 |some r=>some r
 |none=>x4 P o tm mem nm
theorem O0 {P:Program}{o:Oper}{tm:Nat->AV}{mem:Mem}{nm:Nat}{sc:Prop}{e:aG}(h:vM P o tm mem nm=some (sc,e))(hsc:sc):aO P o tm (e.mr mem) nm e.res (e.mw mem):=by
 unfold vM at h;split at h
 ·cases h;exact Gu ‹_› hsc
 ·exact Gt h hsc
def wQ :AV->List Nat
 |.own b=>[b]
 |.sl b _ _ _=>[b]
 |_=>[]
def E7 (tm:Nat->AV)(o:Oper):List Nat:=
 match o.op with
 |.buildSlice _ _ parts=>parts.toList.flatMap λp=>wQ (ev tm p.2)
 |.mapUpdate _ _ _ x=>wQ (ev tm x)
 |.insert _ _ _ x=>wQ (ev tm x)
 |.entryStore _ _ _ x=>wQ (ev tm x)
 |_=>[]
noncomputable def x8 (P:Program)(o:Oper)(tm:Nat->AV)(mem:Mem)(nm:Nat)(gv:List Nat):Option (Prop×aG):=
 match gv with
 |[]=>none
 |c::r=>match vM P o (λt=>cX (λb=>!(c::r).contains b) mem 8 (tm t)) (fK (c::r) mem) nm with
  |some (sc,e)=>some (((c::r).all (λb=>(mem b).isSome)=true)/\sc,⟨e.res,e.rd,e.wr++(c::r).map λb=>(b,none)⟩)
  |none=>none
theorem Gw {P:Program}{o:Oper}{tm:Nat->AV}{mem:Mem}{nm:Nat}{gv:List Nat}{sc:Prop}{e:aG}(h:x8 P o tm mem nm gv=some (sc,e))(hsc:sc):aO P o tm (e.mr mem) nm e.res (e.mw mem):=by
 unfold x8 at h;split at h
 ·cases h
 ·rename_i c r;split at h
  ·rename_i sc' e' he;cases h;obtain⟨s1,s2⟩:=hsc;exact aO.xD (c::r) (λb hb=>cS.1 s1 b hb) (O0 he s2)
  ·cases h
noncomputable def x7 (P:Program)(o:Oper)(tm:Nat->AV)(mem:Mem)(nm:Nat):Option (Prop×aG):=
 match o.op with
 |.call c=>match c.callee with
  |.builtin .len=>match c.argTypes[0]?,c.args[0]? with
   |some T,some x=>match oB P T,ev tm x with
    |some (_,_),.own b=>match mem b with
     |some (.cQ ps _)=>some (True,⟨.d (.v (.int .i64 ps.length)),[b],[]⟩)
     |_=>none
    |_,_=>none
   |_,_=>none
  |.builtin .append=>match c.argTypes.toList,c.args.toList with
   |[T,U],[x,y]=>match oB P T,oB P U,ev tm y with
    |some (E,te),some (_,_),.own b=>match mem b with
     |some (.cQ qs E')=>if E'=E/\0<te.bytes/\te.zero.length=te.sz/\te.sz=1 then match ev tm x with
       |.d (.v (.slice none 0 0))=>some (qs.length*te.bytes<=140737488355328,⟨.own nm,[b],[(nm,some (.cQ qs E))]⟩)
       |.own a=>match mem a with
        |some (.cQ ps E'')=>if E''=E then some ((ps.length+qs.length)*te.bytes<=140737488355328,⟨.own nm,[b],[(nm,some (.cQ (ps++qs) E)),(a,none)]⟩)else none
        |_=>none
       |_=>none
      else none
     |_=>none
    |_,_,_=>none
   |_,_=>none
  |_=>none
 |.indexAddr T x i=>match oB P T,ev tm x,ev tm i with
  |some (_,te),.own b,.d (.v (.int .i64 n))=>match mem b with
   |some (.cQ ps _)=>if 0<=n/\n<ps.length/\te.sz=1 then some (True,⟨.dM b 1 n.toNat 0,[b],[]⟩)else none
   |_=>none
  |_,_,_=>none
 |.load T x=>match aH P T,ev tm x with
  |some ti,.dM b 1 j 0=>match mem b with
   |some (.cQ ps _)=>match ps[j]? with
    |some p=>if ti.agg=false then some (True,⟨.ptr p 0,[b],[]⟩)else none
    |none=>none
   |_=>none
  |_,_=>none
 |.buildSlice T 1 parts=>match oB P T,parts.toList with
  |some (E,te),[(0,.tmp t)]=>match tm t with
   |.ptr p 0=>if te.sz=1/\te.zero.length=1 then some (True,⟨.own nm,[],[(nm,some (.cQ [p] E))]⟩)else none
   |_=>none
  |_,_=>none
 |_=>none
theorem Gv {P:Program}{o:Oper}{tm:Nat->AV}{mem:Mem}{nm:Nat}{sc:Prop}{e:aG}(h:x7 P o tm mem nm=some (sc,e))(hsc:sc):aO P o tm (e.mr mem) nm e.res (e.mw mem):=by
 unfold x7 at h;split at h
 ·rename_i c ho;split at h
  ·rename_i hcal;split at h
   ·rename_i T x hT hx;split at h
    ·rename_i E te b hE hv;obtain⟨ti,h1,h2,h3⟩:=rD hE;split at h
     ·rename_i ps U hb;cases h;exact V1 ho hcal hT h1 h2 hx hv hb
     ·cases h
    ·cases h
   ·cases h
  ·rename_i hcal;split at h
   ·rename_i T U x y hT hA;split at h
    ·rename_i E te E2 te2 b hE hU hv2;obtain⟨ti,h1,h2,h3⟩:=rD hE;obtain⟨G5,h4,h5,h6⟩:=rD hU;split at h
     ·rename_i qs E' hb;split at h
      ·rename_i hc;obtain⟨rfl,c1,c2,c3⟩:=hc;split at h
       ·rename_i hv;cases h;have:=J6 (o:=o) (nm:=nm) (a:=none) (ps:=[]) ho hcal (qA hT) (qA hA) h1 h2 h3 c1 c2 c3 ⟨_,mH h4 h5⟩ (.inl ⟨hv,rfl,rfl⟩) hv2 hb (by simpa using hsc);simpa using this
       ·rename_i a hv;split at h
        ·rename_i ps E'' ha;split at h
         ·rename_i he;subst he;cases h;have:=J6 (o:=o) (nm:=nm) (a:=some a) (ps:=ps) ho hcal (qA hT) (qA hA) h1 h2 h3 c1 c2 c3 ⟨_,mH h4 h5⟩ (.inr ⟨a,hv,rfl,ha⟩) hv2 hb hsc;simpa using this
         ·cases h
        ·cases h
       ·cases h
      ·cases h
     ·cases h
    ·cases h
   ·cases h
  ·cases h
 ·rename_i T x i ho;split at h
  ·rename_i E te b n hE hv hi;obtain⟨ti,h1,h2,h3⟩:=rD hE;split at h
   ·rename_i ps U hb;split at h
    ·rename_i hc;cases h;exact V3 (j:=n.toNat) ho h1 h2 h3 hc.2.2 hv (by rw[hi,Int.toNat_of_nonneg hc.1]) hb (by omega)
    ·cases h
   ·cases h
  ·cases h
 ·rename_i T x ho;split at h
  ·rename_i ti b j hti hv;split at h
   ·rename_i ps U hb;split at h
    ·rename_i p hp;split at h
     ·rename_i hg;cases h;exact V0 ho hti hg hv hb hp
     ·cases h
    ·cases h
   ·cases h
  ·cases h
 ·rename_i T parts ho;split at h
  ·rename_i E te t hE hp;obtain⟨ti,h1,h2,h3⟩:=rD hE;have hp':parts=#[(0,.tmp t)]:=by cases parts;simp at hp;simp[hp]
   subst hp';split at h
   ·rename_i p hv;split at h
    ·rename_i hc;cases h;exact WG ho h1 h2 h3 hc.1 hc.2 hv
    ·cases h
   ·cases h
  ·cases h
 ·cases h
noncomputable def nN (P:Program)(o:Oper)(tm:Nat->AV)(mem:Mem)(nm:Nat):Option (Prop×aG):=
 match x6 P o tm mem nm with
 |some e=>some (True,e)
 |none=>match vM P o tm mem nm with
  |some r=>some r
  |none=>match x8 P o tm mem nm (E7 tm o)with
   |some r=>some r
   |none=>x7 P o tm mem nm
theorem O1 {P:Program}{o:Oper}{tm:Nat->AV}{mem:Mem}{nm:Nat}{sc:Prop}{e:aG}(h:nN P o tm mem nm=some (sc,e))(hsc:sc):aO P o tm (e.mr mem) nm e.res (e.mw mem):=by
 unfold nN at h;split at h
 ·cases h;exact Gs ‹_›
 ·split at h
  ·cases h;exact O0 ‹_› hsc
  ·split at h
   ·cases h;exact Gw ‹_› hsc
   ·exact Gv h hsc
end Go.AI
namespace Go.AI
inductive It where
 |code (c:Code)
 |aS (id:Nat)
 |stop (B:X->Prop)
 |ops (ops:Array Oper) (rest:List Oper) (i:Nat) (ft:List (List Nat×List Nat)) (draw:Bool)
 |br (v:AV) (a b:Code)
 |gd (v:AV) (wa:Bool) (ops:Array Oper) (o:Oper) (rest:List Oper) (i:Nat) (ft:List (List Nat×List Nat)) (draw:Bool)
 |l8 (r:Option (Prop×aG)) (ops:Array Oper) (o:Oper) (rest:List Oper) (i:Nat) (ft:List (List Nat×List Nat)) (draw:Bool)
def xA (ops:Array Oper)(g:Nat)(tm:Nat->AV):Option Value:=
 match ops[g]? with
 |some p=>match p.dst with
  |some d=>match tm d with
   |.d (.v y)=>some y
   |_=>none
  |none=>none
 |none=>none
def iM (ops:Array Oper)(g:Nat)(tm:Nat->AV):Option Bool:=
 match ops[g]? with
 |some p=>match p.dst with
  |some d=>match tm d with
   |.d (.v (.bool b))=>some b
   |_=>none
  |none=>none
 |none=>none
def fR (nt:Nat):Option Nat->Bool
 |some d=>decide (d<nt)
 |none=>true
def oR (id:Nat):List It->Option (List It)
 |[]=>none
 |.aS i::k=>if i=id then some k else oR id k
 |_::k=>oR id k
def eO :It->Bool
 |.ops _ _ _ _ _=>true
 |.br _ _ _=>true
 |.gd _ _ _ _ _ _ _ _=>true
 |.l8 _ _ _ _ _ _ _=>true
 |_=>false
def clean (k:List It):Bool:=k.all λi=>!eO i
theorem p9 {id:Nat}:∀{k k':List It},clean k=true->oR id k=some k'->clean k'=true
 |[],_,_,h=>by cases h
 |.aS i::k,k',hc,h=>by
  simp only[oR]at h;simp only[clean,oL,bN]at hc;split at h
  ·cases h;exact hc.2
  ·exact p9 hc.2 h
 |.code c::k,k',hc,h=>by simp only[clean,oL,bN]at hc;exact p9 hc.2 h
 |.stop c::k,k',hc,h=>by simp only[clean,oL,bN]at hc;exact p9 hc.2 h
 |.ops _ _ _ _ _::k,k',hc,h=>by simp only[clean,oL,bN]at hc;exact p9 hc.2 h
 |.br _ _ _::k,k',hc,h=>by simp only[clean,oL,bN]at hc;exact p9 hc.2 h
 |.gd _ _ _ _ _ _ _ _::k,k',hc,h=>by simp only[clean,oL,bN]at hc;exact p9 hc.2 h
 |.l8 _ _ _ _ _ _ _::k,k',hc,h=>by simp only[clean,oL,bN]at hc;exact p9 hc.2 h
abbrev Fin :=Exit->Act->World->Prop
section
variable {ro : Option Nat} {dp : Nat} {J : Names -> (Nat -> Prop) -> World -> Prop}
def bY (ro:Option Nat)(dp:Nat)(J:Names->(Nat->Prop)->World->Prop)(E:Ctx):List It->Fin->Fin
 |[],Q,e,a,w=>Q e a w
 |.code c::k,Q,.normal,a,w=>c.wpIn (FW ro) dp E.P (bY ro dp J E k Q) a w
 |.code _::k,Q,e,a,w=>bY ro dp J E k Q e a w
 |.aS id::k,Q,.exit i,a,w=>if i=id then bY ro dp J E k Q .normal a w else bY ro dp J E k Q (.exit i) a w
 |.aS _::k,Q,e,a,w=>bY ro dp J E k Q e a w
 |.stop B::_,_,.normal,a,w=>∃x,Rel E x.den a w/\B x
 |.stop _::k,Q,e,a,w=>bY ro dp J E k Q e a w
 |.ops _ _ _ _ _::k,Q,e,a,w=>bY ro dp J E k Q e a w
 |.br _ _ _::k,Q,e,a,w=>bY ro dp J E k Q e a w
 |.gd _ _ _ _ _ _ _ _::k,Q,e,a,w=>bY ro dp J E k Q e a w
 |.l8 _ _ _ _ _ _ _::k,Q,e,a,w=>bY ro dp J E k Q e a w
def lP (E:Ctx)(R:Exit->X->Prop):Fin:=λe a w=>∃x,Rel E x.den a w/\R e x
def aJ (ro:Option Nat)(dp:Nat)(J:Names->(Nat->Prop)->World->Prop)(P:Program)(nt:Nat)(R:Exit->X->Prop)(body:Code)(k:List It)(x:X):Prop:=
 ∀E:Ctx,E.P=P->E.nt=nt->(∀s σ I a w,jH E s σ I a w->J σ I w)->∀a w,Rel E x.den a w->(Code.loop body).wpIn (FW ro) dp P (bY ro dp J E k (lP E R)) a w
inductive CI (ro:Option Nat)(dp:Nat)(J:Names->(Nat->Prop)->World->Prop)(P:Program)(nt:Nat)(R:Exit->X->Prop):List It->X->Prop
 |fin {x:X} (h:R .normal x):CI ro dp J P nt R [] x
 |stop {B:X->Prop} {k:List It} {x:X} (h:B x):CI ro dp J P nt R (.stop B::k) x
 |aS {id:Nat} {k:List It} {x:X} (h:CI ro dp J P nt R k x):CI ro dp J P nt R (.aS id::k) x
 |skip {k:List It} {x:X} (h:CI ro dp J P nt R k x):CI ro dp J P nt R (.code .skip::k) x
 |label {l:Nat} {k:List It} {x:X} (h:CI ro dp J P nt R k x):CI ro dp J P nt R (.code (.label l)::k) x
 |seq {c d:Code} {k:List It} {x:X} (h:CI ro dp J P nt R (.code c:: .code d::k) x):CI ro dp J P nt R (.code (.seq c d)::k) x
 |block {id:Nat} {c:Code} {k:List It} {x:X} (h:CI ro dp J P nt R (.code c:: .aS id::k) x):CI ro dp J P nt R (.code (.block id c)::k) x
 |cond {o:Operand} {c d:Code} {k:List It} {x:X} {t:Bool} (ho:ev (bH x.tm) o=.d (.v (.bool t)))
   (h1:t=true->CI ro dp J P nt R (.code c::k) x) (h2:t=false->CI ro dp J P nt R (.code d::k) x):CI ro dp J P nt R (.code (.cond o c d)::k) x
 |NU {o:Operand} {c d:Code} {k:List It} {x:X} (ho:ev (bH x.tm) o=.ab) (h1:CI ro dp J P nt R (.code c::k) x) (h2:CI ro dp J P nt R (.code d::k) x):CI ro dp J P nt R (.code (.cond o c d)::k) x
 |exit {id:Nat} {k k':List It} {x:X} (hp:oR id k=some k') (h:CI ro dp J P nt R k' x):CI ro dp J P nt R (.code (.exit id)::k) x
 |ret {k:List It} {x:X} (h:R .ret x):CI ro dp J P nt R (.code .ret::k) x
 |goto {l:Nat} {k:List It} {x:X} (h:R (.goto l) x):CI ro dp J P nt R (.code (.goto l)::k) x
 |VG {ops:Array Oper} {o:Oper} {rest:List Oper} {i:Nat} {ft:List (List Nat×List Nat)} {k:List It} {x:X} (y:X) (ch:List PanicEntry) (hg:o.guard=none) (hpl:pM o=true)
   (he:∀(E:Ctx) (s:S) a w,E.P=P->E.nt=nt->s.tm=bH x.tm->s.mm=bG x.mm->(∀b,x.nx+64*i<=b->s.fr b)->Rel E s a w->∀(next:Act->World->Prop) (Q:Exit->Act->World->Prop),(∀a' w',Rel E y.den a' w'->Q (.panic ch) a' w')->o.wp P a w next Q)
   (h:R (.panic ch) y):CI ro dp J P nt R (.ops ops (o::rest) i ft false::k) x
 |loop {c:Code} {k:List It} {x:X} (h:aJ ro dp J P nt R c k x):CI ro dp J P nt R (.code (.loop c)::k) x
 |region {id:Nat} {ops:Array Oper} {draw:Bool} {k:List It} {x:X} (h:CI ro dp J P nt R (.ops ops ops.toList 0 [] draw::k) x):CI ro dp J P nt R (.code (.region id ops draw)::k) x
 |DT {ops:Array Oper} {i:Nat} {ft:List (List Nat×List Nat)} {draw:Bool} {k:List It} {x:X} (hd:draw=true->∃pre,vH ops pre=true/\A4 pre ft=true)
   (h:CI ro dp J P nt R k ⟨x.tm,x.mm,x.nx+64*i⟩):CI ro dp J P nt R (.ops ops [] i ft draw::k) x
 |op {ops:Array Oper} {o:Oper} {rest:List Oper} {i:Nat} {ft:List (List Nat×List Nat)} {draw:Bool} {k:List It} {x:X} (e:aG) (hdst:fR nt o.dst=true)
   (hg:o.guard=none\/∃g wa,o.guard=some (g,wa)/\iM ops g (bH x.tm)=some wa)
   (he:oE ro dp J P o (bH x.tm) (e.mr (bG x.mm)) (x.nx+64*i) e.res (e.mw (bG x.mm)))
   (h:CI ro dp J P nt R (.ops ops rest (i+1) (ft++[e.jC]) draw::k) (x.app o.dst e)):CI ro dp J P nt R (.ops ops (o::rest) i ft draw::k) x
 |zN {ops:Array Oper} {o:Oper} {rest:List Oper} {i:Nat} {ft:List (List Nat×List Nat)} {draw:Bool} {k:List It} {x:X} {g:Nat} {wa:Bool} {y:Value} (hdst:fR nt o.dst=true)
   (hg:o.guard=some (g,wa)) (hb:xA ops g (bH x.tm)=some y) (hne:yb y≠some wa)
   (h:CI ro dp J P nt R (.ops ops rest (i+1) (ft++[([],[])]) draw::k) (x.app o.dst ⟨.d (.v undef),[],[]⟩)):CI ro dp J P nt R (.ops ops (o::rest) i ft draw::k) x
 |sR {k:List It} {x y:X} (hk:clean k=true) (hs:∀(E:Ctx) a w,Rel E x.den a w->Rel E y.den a w) (h:CI ro dp J P nt R k y):CI ro dp J P nt R k x
 |cut {k:List It} {x:X} (hk:clean k=true) (h:∀E:Ctx,E.P=P->E.nt=nt->(∀s σ I a w,jH E s σ I a w->J σ I w)->∀a w,Rel E x.den a w->bY ro dp J E k (lP E R) .normal a w):CI ro dp J P nt R k x
theorem GA {E:Ctx}{Q:Fin}{id:Nat}{a:Act}{w:World}:∀{k k':List It},oR id k=some k'->bY ro dp J E k' Q .normal a w->bY ro dp J E k Q (.exit id) a w
 |[],_,h,_=>by cases h
 |i::k,k',h,hq=>by
  cases i with
  |aS j=>
   simp only[oR]at h;simp only[bY];split at h
   ·rename_i e;cases h;subst e;simp;exact hq
   ·rename_i e;rw[aR λx=>e x.symm];exact GA h hq
  |_=>simp only[oR]at h;simp only[bY];exact GA h hq
theorem OV {E:Ctx}{Q:Fin}{a:Act}{w:World}:∀(k:List It),Q .ret a w->bY ro dp J E k Q .ret a w
 |[],h=>h
 |i::k,h=>by cases i<;>(simp only[bY];exact OV k h)
theorem OX {E:Ctx}{Q:Fin}{l:Nat}{a:Act}{w:World}:∀(k:List It),Q (.goto l) a w->bY ro dp J E k Q (.goto l) a w
 |[],h=>h
 |i::k,h=>by cases i<;>(simp only[bY];exact OX k h)
theorem OW {E:Ctx}{Q:Fin}{l:List PanicEntry}{a:Act}{w:World}:∀(k:List It),Q (.panic l) a w->bY ro dp J E k Q (.panic l) a w
 |[],h=>h
 |i::k,h=>by cases i<;>(simp only[bY];exact OW k h)
theorem VC {E:Ctx}{ops:Array Oper}{Q:Exit->Act->World->Prop}{effs:Nat->aG}{nx:Nat}{s:S}{n:Nat}(hn:n<ops.size)
  (hok:∀i o,i<n->ops[i]? =some o->oF ro dp J E ops o (after ops effs nx s (λ_=>true) i) (nx+64*i) (effs i)) (hfr:∀b,nx<=b->s.fr b) (hJ:∀s σ I a w,jH E s σ I a w->J σ I w)
  (hQ:∀a w,Rel E (after ops effs nx s (λ_=>true) n) a w->wpOpsIn (FW ro) dp E.P ops Q (List.range' n (ops.size-n)) a w):
  ∀m i,i+m=n->∀a w,Rel E (after ops effs nx s (λ_=>true) i) a w->wpOpsIn (FW ro) dp E.P ops Q (List.range' i (ops.size-i)) a w:=by
 intro m;induction m with
 |zero=>intro i hi a w hr;obtain rfl:i=n:=by omega
        exact hQ a w hr
 |succ m ih=>
  intro i hi a w hr;have ho:ops[i]? =some ops[i]:=iV (by omega);rw[show ops.size-i=(ops.size-(i+1))+1 by omega,List.range'_succ,wpOpsIn_cons];refine CS ho (hok i _ (by omega) ho) (λb hb=>?_) hr hJ (λa' w' hr'=>ih (i+1) (by omega) a' w' ?_)
  ·rw[xY];exact⟨hfr b (by have:=hb.1;omega),λj hj _ hj'=>by have:=hb.1;have:=hj'.2;omega⟩
  ·simp only[after,ho];exact hr'
theorem ZS {ops:Array Oper}{g:Nat}{tm:Nat->AV}{y:Value}(h:xA ops g tm=some y):∃p d,ops[g]? =some p/\p.dst=some d/\tm d=.d (.v y):=by
 unfold xA at h
 grind
theorem Z6 {ops:Array Oper}{g:Nat}{tm:Nat->AV}{b:Bool}(h:iM ops g tm=some b):∃p d,ops[g]? =some p/\p.dst=some d/\tm d=.d (.v (.bool b)):=by
 unfold iM at h
 grind
theorem Rel.fr {E:Ctx}{s s':S}{a:Act}{w:World}(h:Rel E s a w)(h1:s'.tm=s.tm)(h2:s'.mm=s.mm)(h3:∀b,s'.fr b->s.fr b):Rel E s' a w:=by
 obtain⟨σ,I,h⟩:=h;refine⟨σ,I,h.size,h.kU,by rw[h1];exact h.tm,by rw[h2];exact h.mm,λb hb=>h.free b (h3 b hb),h.ib,h.i0,h.fB,by rw[h2];exact h.eM,h.os,h.tape,h.output,h.hs,h.frame,h.jW,h.low⟩
theorem OU {ops:Array Oper}{nx:Nat}{s0:S}{tr tr':List aG}:∀(i:Nat),(∀j,j<i->tr.getD j ⟨.any,[],[]⟩=tr'.getD j ⟨.any,[],[]⟩)->
  after ops (λj=>tr.getD j ⟨.any,[],[]⟩) nx s0 (λ_=>true) i=after ops (λj=>tr'.getD j ⟨.any,[],[]⟩) nx s0 (λ_=>true) i
 |0,_=>rfl
 |i+1,h=>by
  simp only[after,dY,h i (by omega)];rw[OU i (λj hj=>h j (by omega))]
def zF (ro:Option Nat)(dp:Nat)(J:Names->(Nat->Prop)->World->Prop)(E:Ctx)(ops:Array Oper)(s0:S)(nx:Nat)(tr:List aG)(i:Nat)(x:X):Prop:=
 tr.length=i/\x.nx=nx/\x.den.tm=(after ops (λj=>tr.getD j ⟨.any,[],[]⟩) nx s0 (λ_=>true) i).tm/\
  x.den.mm=(after ops (λj=>tr.getD j ⟨.any,[],[]⟩) nx s0 (λ_=>true) i).mm/\
  ∀j o,j<i->ops[j]? =some o->oF ro dp J E ops o (after ops (λj=>tr.getD j ⟨.any,[],[]⟩) nx s0 (λ_=>true) j) (nx+64*j) (tr.getD j ⟨.any,[],[]⟩)
theorem zF.next {E:Ctx}{ops:Array Oper}{s0:S}{nx:Nat}{tr:List aG}{i:Nat}{x:X}(h:zF ro dp J E ops s0 nx tr i x){o:Oper}(ho:ops[i]? =some o){e:aG}
  (hok:oF ro dp J E ops o (after ops (λj=>tr.getD j ⟨.any,[],[]⟩) nx s0 (λ_=>true) i) (nx+64*i) e):zF ro dp J E ops s0 nx (tr++[e]) (i+1) (x.app o.dst e):=by
 obtain⟨h1,h2,h3,h4,h5⟩:=h;have hold:∀j,j<i->(tr++[e]).getD j ⟨.any,[],[]⟩=tr.getD j ⟨.any,[],[]⟩:=λj hj=>by
  simp[lS (show j<tr.length by omega)]
 have hnew:(tr++[e]).getD i ⟨.any,[],[]⟩=e:=by
  simp[<-h1]
 have ha:∀j,j<=i->after ops (λj=>(tr++[e]).getD j ⟨.any,[],[]⟩) nx s0 (λ_=>true) j=after ops (λj=>tr.getD j ⟨.any,[],[]⟩) nx s0 (λ_=>true) j:=
  λj hj=>OU j (λq hq=>hold q (by omega))
 refine⟨by simp[h1],h2,?_,?_,λj o' hj hj'=>?_⟩
 ·rw[(X.NP x o.dst e).1];simp only[after,dY,ha i (aY _),ho,vT,S.app,hnew,h3]
 ·rw[(X.NP x o.dst e).2];simp only[after,dY,ha i (aY _),vT,S.app,hnew,h4]
 ·rw[ha j (by omega)];by_cases e':j=i
  ·subst e';rw[ho]at hj';cases hj';rw[hnew];exact hok
  ·rw[hold j (by omega)];exact h5 j o' (by omega) hj'
theorem pA {P:Program}{nt:Nat}{R:Exit->X->Prop}(hm:P.follows .mixedOrders=true){k:List It}{x:X}(h:CI ro dp J P nt R k x):
  ∀E:Ctx,E.P=P->E.nt=nt->(∀s σ I a w,jH E s σ I a w->J σ I w)->
   ((clean k=true->∀a w,Rel E x.den a w->bY ro dp J E k (lP E R) .normal a w)/\
    ∀ops rest i ft draw k',k=.ops ops rest i ft draw::k'->clean k'=true->∀tr s0 nx,tr.map aG.jC=ft->ops.toList.drop i=rest->i<=ops.size->zF ro dp J E ops s0 nx tr i x->(∀b,nx<=b->s0.fr b)->
     ∀a w id,Rel E s0 a w->(Code.region id ops draw).wpIn (FW ro) dp P (bY ro dp J E k' (lP E R)) a w):=by
 induction h with
 |fin h=>exact λE hP hn hJ=>⟨λ_ a w hr=>⟨_,hr,h⟩,λ_ _ _ _ _ _ h=>by cases h⟩
 |stop h=>exact λE hP hn hJ=>⟨λ_ a w hr=>⟨_,hr,h⟩,λ_ _ _ _ _ _ h=>by cases h⟩
 |aS h ih=>exact λE hP hn hJ=>⟨λhc a w hr=>(ih E hP hn hJ).1 (by simpa[clean,eO]using hc) a w hr,λ_ _ _ _ _ _ h=>by cases h⟩
 |skip h ih=>exact λE hP hn hJ=>⟨λhc a w hr=>wpIn_skip ((ih E hP hn hJ).1 (by simpa[clean,eO]using hc) a w hr),λ_ _ _ _ _ _ h=>by cases h⟩
 |label h ih=>exact λE hP hn hJ=>⟨λhc a w hr=>wpIn_label ((ih E hP hn hJ).1 (by simpa[clean,eO]using hc) a w hr),λ_ _ _ _ _ _ h=>by cases h⟩
 | @seq c d k x h ih=>
   refine λE hP hn hJ=>⟨λhc a w hr=>wpIn_seq ?_,λ_ _ _ _ _ _ h=>by cases h⟩;have:=(ih E hP hn hJ).1 (by simpa[clean,eO]using hc) a w hr;simp only[bY]at this;refine oI this (λe a w h=>?_);cases e<;>simp only[bY,Exit.then]at h⊢<;>exact h
 | @block id c k x h ih=>
   refine λE hP hn hJ=>⟨λhc a w hr=>wpIn_block ?_,λ_ _ _ _ _ _ h=>by cases h⟩;have:=(ih E hP hn hJ).1 (by simpa[clean,eO]using hc) a w hr;simp only[bY]at this;refine oI this (λe a w h=>?_);cases e<;>simp only[bY,Exit.inBlock]at h⊢<;>exact h
 | @cond o c d k x t ho h1 h2 ih1 ih2=>
   refine λE hP hn hJ=>⟨λhc a w hr=>?_,λ_ _ _ _ _ _ h=>by cases h⟩;have hv:a.eval o=.bool t:=by
    obtain⟨σ,I,hr⟩:=hr;exact O5 (ho▸bO (tm:=x.den.tm) λs e=>hr.tm s)
   cases t with
   |true=>exact wpIn_cond_true hv ((ih1 rfl E hP hn hJ).1 (by simpa[clean,eO]using hc) a w hr)
   |false=>exact wpIn_cond_false hv ((ih2 rfl E hP hn hJ).1 (by simpa[clean,eO]using hc) a w hr)
 | @NU o c d k x ho h1 h2 ih1 ih2=>
   refine λE hP hn hJ=>⟨λhc a w hr=>?_,λ_ _ _ _ _ _ h=>by cases h⟩;obtain⟨t,hv⟩:∃t,a.eval o=.bool t:=by
    obtain⟨σ,I,hr⟩:=hr;have:=bO (σ:=σ) (I:=I) (w:=w) (tm:=x.den.tm) (a:=a) (x:=o) λs e=>hr.tm s;rw[show ev x.den.tm o=.ab from ho]at this;generalize a.eval o=u at this;cases this with
    |ab t=>exact⟨t,rfl⟩
   cases t with
   |true=>exact wpIn_cond_true hv ((ih1 E hP hn hJ).1 (by simpa[clean,eO]using hc) a w hr)
   |false=>exact wpIn_cond_false hv ((ih2 E hP hn hJ).1 (by simpa[clean,eO]using hc) a w hr)
 |exit hp h ih=>exact λE hP hn hJ=>⟨λhc a w hr=>wpIn_exit (GA hp ((ih E hP hn hJ).1 (p9 (by simpa[clean,eO]using hc) hp) a w hr)),λ_ _ _ _ _ _ h=>by cases h⟩
 |ret h=>exact λE hP hn hJ=>⟨λ_ a w hr=>wpIn_ret (by exact OV _ ⟨_,hr,h⟩),λ_ _ _ _ _ _ h=>by cases h⟩
 |loop h=>exact λE hP hn hJ=>⟨λ_ a w hr=>by subst hP;exact h E rfl hn hJ a w hr,λ_ _ _ _ _ _ h=>by cases h⟩
 | @region id ops draw k x h ih=>
   refine λE hP hn hJ=>⟨λhc a w hr=>?_,λ_ _ _ _ _ _ h=>by cases h⟩;have:=(ih E hP hn hJ).2 ops ops.toList 0 [] draw k rfl (by simpa[clean,eO]using hc) [] x.den x.nx rfl rfl (jJ _) ⟨rfl,rfl,rfl,rfl,λj o hj=>by omega⟩ (λb hb=>hb) a w id hr;subst hP;exact this
 | @DT ops i ft draw k x hd h ih=>
   refine λE hP hn hJ=>⟨λhc=>by simp[clean,eO]at hc,λops' rest' i' ft' draw' k' he hc tr s0 nx hft hdrop hle hst hfr a w id hr=>?_⟩;cases he;subst hft;have hi:i=ops.size:=by
    have:=cI List.length hdrop;simp at this;omega
   subst hi;obtain⟨g1,g2,g3,g4,g5⟩:=hst;subst hP;have hok:∀j o,ops[j]? =some o->oF ro dp J E ops o (after ops (λj=>tr.getD j ⟨.any,[],[]⟩) nx s0 (λ_=>true) j) (nx+64*j) (tr.getD j ⟨.any,[],[]⟩):=
    λj o hj=>g5 j o (e7.1 hj).1 hj
   have hQ:∀a w,Rel E (after ops (λj=>tr.getD j ⟨.any,[],[]⟩) nx s0 (λ_=>true) ops.size) a w->bY ro dp J E k (lP E R) .normal a w:=by
    intro a w hr';refine(ih E rfl hn hJ).1 hc a w (hr'.fr g3 g4 (λb hb=>?_));rw[xY];have hb':x.nx+64*ops.size<=b:=hb;rw[g2]at hb';exact⟨hfr b (by omega),λj hj _ hf=>by have:=hf.2;omega⟩
   cases draw with
   |false=>exact TT hok hfr hJ hr hQ
   |true=>
    obtain⟨pre,q1,q2⟩:=hd rfl;exact TU hm _ (Bw q1) (Bv q1 g1 q2) hok hfr hJ hr hQ
 | @op ops o rest i ft draw k x e hdst hg he h ih=>
   refine λE hP hn hJ=>⟨λhc=>by simp[clean,eO]at hc,λops' rest' i' ft' draw' k' hee hc tr s0 nx hft hdrop hle hst hfr a w id hr=>?_⟩;cases hee;subst hft;have hlt:i<ops.size:=by
    have:=cI List.length hdrop;simp at this;omega
   have ho:ops[i]? =some o:=by
    have:(ops.toList.drop i)[0]? =some o:=by rw[hdrop];rfl
    simpa using this
   have hdrop':ops.toList.drop (i+1)=rest:=by
    have:=cI List.tail hdrop;simpa[List.tail_drop]using this
   refine(ih E hP hn hJ).2 ops rest (i+1) _ draw k rfl hc (tr++[e]) s0 nx (by simp) hdrop' hlt (hst.next ho ?_) hfr a w id hr;subst hP;subst hn;obtain⟨g1,g2,g3,g4,g5⟩:=hst;refine⟨λd hd=>by simpa[fR,hd]using hdst,?_⟩;rw[<-g3,<-g4,<-g2];rcases hg with hg|⟨g,wa,hg,hb⟩
   ·exact .inl ⟨hg,he⟩
   ·obtain⟨p,d,p1,p2,p3⟩:=Z6 hb;exact .inr ⟨g,wa,p,d,.bool wa,hg,p1,p2,p3,.inl ⟨rfl,he⟩⟩
 | @zN ops o rest i ft draw k x g wa y hdst hg hb hne h ih=>
   refine λE hP hn hJ=>⟨λhc=>by simp[clean,eO]at hc,λops' rest' i' ft' draw' k' hee hc tr s0 nx hft hdrop hle hst hfr a w id hr=>?_⟩;cases hee;subst hft;have hlt:i<ops.size:=by
    have:=cI List.length hdrop;simp at this;omega
   have ho:ops[i]? =some o:=by
    have:(ops.toList.drop i)[0]? =some o:=by rw[hdrop];rfl
    simpa using this
   have hdrop':ops.toList.drop (i+1)=rest:=by
    have:=cI List.tail hdrop;simpa[List.tail_drop]using this
   refine(ih E hP hn hJ).2 ops rest (i+1) _ draw k rfl hc (tr++[⟨.d (.v undef),[],[]⟩]) s0 nx (by simp[aG.jC]) hdrop' hlt (hst.next ho ?_) hfr a w id hr;subst hP;subst hn;obtain⟨g1,g2,g3,g4,g5⟩:=hst;refine⟨λd hd=>by simpa[fR,hd]using hdst,?_⟩;obtain⟨p,d,p1,p2,p3⟩:=ZS hb;refine .inr ⟨g,wa,p,d,y,hg,p1,p2,?_,.inr ⟨hne,rfl⟩⟩;rw[<-g3];exact p3
 |goto h=>exact λE hP hn hJ=>⟨λ_ a w hr=>wpIn_goto (by exact OX _ ⟨_,hr,h⟩),λ_ _ _ _ _ _ h=>by cases h⟩
 | @VG ops o rest i ft k x y ch hg hpl he h=>
   refine λE hP hn hJ=>⟨λhc=>by simp[clean,eO]at hc,λops' rest' i' ft' draw' k' hee hc tr s0 nx hft hdrop hle hst hfr a w id hr=>?_⟩;cases hee;subst hft;have hlt:i<ops.size:=by
    have:=cI List.length hdrop;simp at this;omega
   have ho:ops[i]? =some o:=by
    have:(ops.toList.drop i)[0]? =some o:=by rw[hdrop];rfl
    simpa using this
   obtain⟨g1,g2,g3,g4,g5⟩:=hst;subst hP;refine wpIn_region ?_;rw[List.range_eq_range'];refine VC hlt g5 hfr hJ (λa w hr'=>?_) i 0 (by omega) a w hr;rw[show ops.size-i=(ops.size-(i+1))+1 by omega,List.range'_succ,wpOpsIn_cons];unfold wpOpIn;have hw:Region.wanted o (yielded ops a.tmps)=true:=by simp[Region.wanted,hg]
   simp only[ho,hw,dY];refine CR hpl (he E _ a w rfl hn g3.symm g4.symm (λb hb=>?_) hr' _ _ λa' w' h'=>OW k ⟨y,h',h⟩);rw[xY];exact⟨hfr b (by omega),λj hj _ hf=>by have:=hf.2;omega⟩
 |sR hk hs h ih=>
  refine λE hP hn hJ=>⟨λhc a w hr=>(ih E hP hn hJ).1 hc a w (hs E a w hr),λops' rest' i' tr' draw' k' hee=>?_⟩;subst hee;simp[clean,eO]at hk
 |cut hk h=>
  refine λE hP hn hJ=>⟨λhc a w hr=>h E hP hn hJ a w hr,λops' rest' i' tr' draw' k' hee=>?_⟩;subst hee;simp[clean,eO]at hk
end
def gH (ops:Array Oper)(ft:List (List Nat×List Nat)):Prop:=vH ops (JD ops.toList)=true/\A4 (JD ops.toList) ft=true
instance (ops:Array Oper) (ft:List (List Nat×List Nat)):Decidable (gH ops ft):=inferInstanceAs (Decidable (_/\_))
def sC (ops:Array Oper)(g:Nat)(tm:Nat->AV):AV:=
 match ops[g]? with
 |some p=>match p.dst with
  |some d=>tm d
  |none=>.any
 |none=>.any
theorem E6 {ops:Array Oper}{g:Nat}{tm:Nat->AV}{y:Value}(h:sC ops g tm=.d (.v y)):xA ops g tm=some y:=by
 unfold sC at h;unfold xA
 grind
theorem MO {ops:Array Oper}{g:Nat}{tm:Nat->AV}{b:Bool}(h:sC ops g tm=.d (.v (.bool b))):iM ops g tm=some b:=by
 unfold sC at h;unfold iM
 grind
def fQ :List It->Bool
 |[]=>true
 |_::k=>clean k
theorem tJ :∀{k:List It},clean k=true->fQ k=true
 |[],_=>rfl
 |_::k,h=>by simp only[clean,oL,bN]at h;exact h.2
section
variable {ro : Option Nat} {dp : Nat} {J : Names -> (Nat -> Prop) -> World -> Prop}
noncomputable def aX (ro:Option Nat)(dp:Nat)(J:Names->(Nat->Prop)->World->Prop)(P:Program)(nt:Nat)(R:Exit->X->Prop)(st:Nat):Nat->List It->X->Prop
 |0,_,_=>False
 |_+1,[],x=>R .normal x
 |_+1,.stop B::_,x=>B x
 |n+1,.aS _::k,x=>aX ro dp J P nt R st n k x
 |n+1,.br v a b::k,x=>match v with
  |.d (.v (.bool true))=>aX ro dp J P nt R st n (.code a::k) x
  |.d (.v (.bool false))=>aX ro dp J P nt R st n (.code b::k) x
  |.ab=>aX ro dp J P nt R st n (.code a::k) x/\aX ro dp J P nt R st n (.code b::k) x
  |_=>False
 |n+1,.ops ops rest i ft d::k,x=>match rest with
  |[]=>if d then(gH ops ft/\aX ro dp J P nt R st n k ⟨x.tm,x.mm,x.nx+64*i⟩)else aX ro dp J P nt R st n k ⟨x.tm,x.mm,x.nx+64*i⟩
  |o::rest=>match o.guard with
   |none=>aX ro dp J P nt R st n (.l8 (nN P o (bH x.tm) (bG x.mm) (x.nx+64*i)) ops o rest i ft d::k) x
   |some (g,wa)=>aX ro dp J P nt R st n (.gd (sC ops g (bH x.tm)) wa ops o rest i ft d::k) x
 |n+1,.gd v wa ops o rest i ft d::k,x=>match v with
  |.d (.v (.bool true))=>if wa then aX ro dp J P nt R st n (.l8 (nN P o (bH x.tm) (bG x.mm) (x.nx+64*i)) ops o rest i ft d::k) x
   else(fR nt o.dst=true/\aX ro dp J P nt R st n (.ops ops rest (i+1) (ft++[([],[])]) d::k) (x.app o.dst ⟨.d (.v undef),[],[]⟩))
  |.d (.v (.bool false))=>if wa then(fR nt o.dst=true/\aX ro dp J P nt R st n (.ops ops rest (i+1) (ft++[([],[])]) d::k) (x.app o.dst ⟨.d (.v undef),[],[]⟩))
   else aX ro dp J P nt R st n (.l8 (nN P o (bH x.tm) (bG x.mm) (x.nx+64*i)) ops o rest i ft d::k) x
  |.d (.v (.tuple _))=>fR nt o.dst=true/\aX ro dp J P nt R st n (.ops ops rest (i+1) (ft++[([],[])]) d::k) (x.app o.dst ⟨.d (.v undef),[],[]⟩)
  |_=>False
 |n+1,.l8 r ops o rest i ft d::k,x=>match r with
  |some (sc,e)=>sc/\fR nt o.dst=true/\aX ro dp J P nt R st n (.ops ops rest (i+1) (ft++[e.jC]) d::k) (x.app o.dst e)
  |none=>CI ro dp J P nt R (.ops ops (o::rest) i ft d::k) x
 |n+1,.code c::k,x=>match c with
  |.skip=>aX ro dp J P nt R st n k x
  |.label _=>aX ro dp J P nt R st n k x
  |.seq a b=>aX ro dp J P nt R st n (.code a:: .code b::k) x
  |.block id a=>aX ro dp J P nt R st n (.code a:: .aS id::k) x
  |.cond o a b=>aX ro dp J P nt R st n (.br (ev (bH x.tm) o) a b::k) x
  |.region id ops d=>if id=st then CI ro dp J P nt R (.code (.region id ops d)::k) x else aX ro dp J P nt R st n (.ops ops ops.toList 0 [] d::k) x
  |.ret=>R .ret x
  |.exit id=>match oR id k with
   |some k'=>aX ro dp J P nt R st n k' x
   |none=>False
  |.loop a=>aJ ro dp J P nt R a k x
  |_=>False
def L7 (ro:Option Nat)(dp:Nat)(J:Names->(Nat->Prop)->World->Prop)(P:Program)(nt:Nat)(R:Exit->X->Prop)(x:X):List It->Prop
 |.br v a b::k=>∀o,ev (bH x.tm) o=v->CI ro dp J P nt R (.code (.cond o a b)::k) x
 |.gd v wa ops o rest i ft d::k=>∀g,o.guard=some (g,wa)->sC ops g (bH x.tm)=v->CI ro dp J P nt R (.ops ops (o::rest) i ft d::k) x
 |.l8 r ops o rest i ft d::k=>(o.guard=none\/∃g wa,o.guard=some (g,wa)/\iM ops g (bH x.tm)=some wa)->nN P o (bH x.tm) (bG x.mm) (x.nx+64*i)=r->CI ro dp J P nt R (.ops ops (o::rest) i ft d::k) x
 |k=>CI ro dp J P nt R k x
theorem O2 {P:Program}{o:Oper}{tm:Nat->AV}{mem:Mem}{nx:Nat}{r:Prop×aG}(h:nN P o tm mem nx=some r):pM o=true:=by
 unfold pM;split
 ·rename_i c hc;simp[nN,x6,x5,x4,vM,x8,x7,hc]at h;cases hg:E7 tm o<;>simp[hg]at h
 ·rfl
theorem tZ {P:Program}{nt:Nat}{R:Exit->X->Prop}{x:X}:∀{k:List It},clean k=true->L7 ro dp J P nt R x k->CI ro dp J P nt R k x
 |[],_,h=>h
 |.stop _::_,_,h=>h
 |.aS _::_,_,h=>h
 |.code _::_,_,h=>h
 |.ops _ _ _ _ _::_,_,h=>h
 |.br _ _ _::_,h,_=>by simp[clean,eO]at h
 |.gd _ _ _ _ _ _ _ _::_,h,_=>by simp[clean,eO]at h
 |.l8 _ _ _ _ _ _ _::_,h,_=>by simp[clean,eO]at h
theorem IC {P:Program}{nt:Nat}{R:Exit->X->Prop}{st:Nat}:∀(n:Nat) (k:List It) (x:X),fQ k=true->aX ro dp J P nt R st n k x->L7 ro dp J P nt R x k:=by
 intro n;induction n with
 |zero=>intro k x _ h;exact h.elim
 |succ n ih=>
  intro k x hg h
  match k,hg,h with
  |[],_,h=>exact .fin h
  |.stop B::k,_,h=>exact .stop h
  |.aS id::k,hg,h=>exact .aS (tZ hg (ih k x (tJ hg) h))
  |.br v a b::k,hg,h=>
   intro o ho;simp only[aX]at h;split at h
   ·exact .cond ho (λ_=>ih _ x (by exact hg) h) (λe=>by cases e)
   ·exact .cond ho (λe=>by cases e) (λ_=>ih _ x (by exact hg) h)
   ·exact .NU ho (ih _ x (by exact hg) h.1) (ih _ x (by exact hg) h.2)
   ·exact h.elim
  |.ops ops rest i ft d::k,hg,h=>
   simp only[aX]at h;split at h
   ·split at h
    ·exact .DT (λ_=>⟨_,h.1.1,h.1.2⟩) (tZ hg (ih k _ (tJ hg) h.2))
    ·rename_i hd;exact .DT (λe=>absurd e (by simpa using hd)) (tZ hg (ih k _ (tJ hg) h))
   ·split at h
    ·exact ih _ x (by exact hg) h (.inl ‹_›) rfl
    ·exact ih _ x (by exact hg) h _ ‹_› rfl
  |.gd v wa ops o rest i ft d::k,hg,h=>
   intro g hgd hv;simp only[aX]at h;split at h
   ·split at h
    ·rename_i hwa;exact ih _ x (by exact hg) h (.inr ⟨g,wa,hgd,by rw[MO hv,hwa]⟩) rfl
    ·rename_i hwa;exact .zN h.1 hgd (E6 hv) (by intro e;simp only[yb,mV]at e;exact hwa e.symm) (ih _ _ (by exact hg) h.2)
   ·split at h
    ·rename_i hwa;exact .zN h.1 hgd (E6 hv) (by intro e;rw[hwa]at e;cases e) (ih _ _ (by exact hg) h.2)
    ·rename_i hwa;refine ih _ x (by exact hg) h (.inr ⟨g,wa,hgd,?_⟩) rfl;rw[MO hv];cases wa
     ·rfl
     ·exact absurd rfl hwa
   ·exact .zN h.1 hgd (E6 hv) (by intro e;cases e) (ih _ _ (by exact hg) h.2)
   ·exact h.elim
  |.l8 r ops o rest i ft d::k,hg,h=>
   intro hgd hr;simp only[aX]at h;split at h
   ·exact .op _ h.2.1 hgd ((O1 hr h.1).kL (O2 hr)) (ih _ _ (by exact hg) h.2.2)
   ·exact h
  |.code c::k,hg,h=>
   have hck:∀c',clean (.code c'::k)=true:=λc'=>by simp only[clean,eO,Bool.not_false,pF];exact hg
   simp only[aX]at h;split at h
   ·exact .skip (tZ hg (ih k x (tJ hg) h))
   ·exact .label (tZ hg (ih k x (tJ hg) h))
   ·exact .seq (ih _ x (by exact hck _) h)
   ·exact .block (ih _ x (by simp only[fQ,oL,eO,Bool.not_false,pF];exact hg) h)
   ·rename_i o a b;exact ih _ x (by exact hg) h o rfl
   ·split at h
    ·exact h
    ·exact .region (ih _ x (by exact hg) h)
   ·exact .ret h
   ·split at h
    ·rename_i k' hp;exact .exit hp (tZ (p9 hg hp) (ih _ x (tJ (p9 hg hp)) h))
    ·exact h.elim
   ·exact .loop h
   ·exact h.elim
theorem CI.run {P:Program}{nt:Nat}{R:Exit->X->Prop}(st n:Nat){k:List It}{x:X}(hc:clean k=true)(h:AI.aX ro dp J P nt R st n k x):CI ro dp J P nt R k x:=
 tZ hc (IC n k x (tJ hc) h)
theorem CI.nC {P:Program}{nt:Nat}{R:Exit->X->Prop}(st n:Nat){ops:Array Oper}{rest:List Oper}{i:Nat}{ft:List (List Nat×List Nat)}{d:Bool}{k:List It}{x:X}(hc:clean k=true)
  (h:AI.aX ro dp J P nt R st n (.ops ops rest i ft d::k) x):CI ro dp J P nt R (.ops ops rest i ft d::k) x:=
 IC n _ x (by exact hc) h
end
def cY (p:Nat->Bool):AV->Bool
 |.d _=>true
 |.any=>true
 |.ab=>true
 |.ptr b _=>p b
 |.own b=>p b
 |.dM b _ _ _=>p b
 |.sl b _ _ _=>p b
 |.agg cs=>gS cs
 |.bC cs=>gS cs
 |.fn _ a b=>gS a&&gS b
 |.dC _ x=>cY p x
where gS:List AV->Bool
 |[]=>true
 |x::r=>cY p x&&gS r
def bI (p:Nat->Bool):aN->Bool
 |.cells cs _=>cY.gS p cs
 |.iL _ _ _ _ _ c=>p c
 |.cL _ _ (some q)=>p q.2
 |.cQ ps _=>ps.all p
 |_=>true
theorem n2 {p:Nat->Bool}:∀{l:List AV},cY.gS p l=true->∀(i:Nat) c,l[i]? =some c->cY p c=true
 |[],_,i,c,h=>by simp at h
 |x::r,hn,i,c,h=>by
  simp only[cY.gS,bN]at hn;cases i with
  |zero=>simp at h;rw[<-h];exact hn.1
  |succ i=>exact n2 hn.2 i c (by simpa using h)
def aN.aW (g:Nat->Nat):aN->aN
 |.cells cs T=>.cells (cs.map (AV.aW g)) T
 |.iL ka ks va look kc c=>.iL ka ks va look kc (g c)
 |.cL es clock hole=>.cL es clock (hole.map λq=>(q.1,g q.2))
 |.cQ ps T=>.cQ (ps.map g) T
 |k=>k
section
variable {σ σ0 : Names} {I : Nat -> Prop} {w : World} {g : Nat -> Nat} {p : Nat -> Bool}
theorem O4 (hs:∀b,p b=true->∀x,σ0 b=some x->σ (g b)=some x){a:AV}{v:Value}(h:RV σ0 I w a v)(hn:cY p a=true):RV σ I w (a.aW g) v:=by
 induction h with
 |d h=>simp only[AV.aW];exact .d h
 |any y=>simp only[AV.aW];exact .any y
 |ab t=>simp only[AV.aW];exact .ab t
 |ptr h=>simp only[AV.aW];exact .ptr (hs _ hn _ h)
 |own h h1=>simp only[AV.aW];exact .own (hs _ hn _ h) h1
 |dM h=>simp only[AV.aW];exact .dM (hs _ hn _ h)
 |sl h hs'=>simp only[AV.aW];exact .sl (hs _ hn _ h) hs'
 |agg hl _ ih=>
  simp only[AV.aW];refine .agg (by simpa using hl) (λi c x h1 h2=>?_);simp only[fN]at h1;obtain⟨c',hc',rfl⟩:=iU.1 h1;exact ih i c' x hc' h2 (n2 hn i c' hc')
 |bC hl _ ih=>
  simp only[AV.aW];refine .bC (by simpa using hl) (λi c x h1 h2=>?_);simp only[fN]at h1;obtain⟨c',hc',rfl⟩:=iU.1 h1;exact ih i c' x hc' h2 (n2 hn i c' hc')
 |fn hx hy _ _ i1 i2=>
  simp only[AV.aW];simp only[cY,bN]at hn;refine .fn (by simpa using hx) (by simpa using hy) (λi c x h1 h2=>?_) (λi c x h1 h2=>?_)
  ·simp only[fN]at h1;obtain⟨c',hc',rfl⟩:=iU.1 h1;exact i1 i c' x hc' h2 (n2 hn.1 i c' hc')
  ·simp only[fN]at h1;obtain⟨c',hc',rfl⟩:=iU.1 h1;exact i2 i c' x hc' h2 (n2 hn.2 i c' hc')
 |dC _ ih=>simp only[AV.aW];exact .dC (ih hn)
theorem yB (hs:∀b,p b=true->∀x,σ (g b)=some x->σ0 b=some x){A:AV}{v:Value}(h:RV σ I w A v):∀{a:AV},A=a.aW g->cY p a=true->RV σ0 I w a v:=by
 induction h with
 |d h=>intro a e hn;cases a<;>simp[AV.aW]at e;subst e;exact .d h
 |any y=>intro a e hn;cases a<;>simp[AV.aW]at e;exact .any y
 |ab t=>intro a e hn;cases a<;>simp[AV.aW]at e;exact .ab t
 |ptr h=>intro a e hn;cases a<;>simp[AV.aW]at e;obtain⟨rfl,rfl⟩:=e;exact .ptr (hs _ hn _ h)
 |own h h1=>intro a e hn;cases a<;>simp[AV.aW]at e;subst e;exact .own (hs _ hn _ h) h1
 |dM h=>intro a e hn;cases a<;>simp[AV.aW]at e;obtain⟨rfl,rfl,rfl,rfl⟩:=e;exact .dM (hs _ hn _ h)
 |sl h hs'=>intro a e hn;cases a<;>simp[AV.aW]at e;obtain⟨rfl,rfl,rfl,rfl⟩:=e;exact .sl (hs _ hn _ h) hs'
 |agg hl _ ih=>
  intro a e hn;cases a<;>simp[AV.aW]at e;subst e;refine .agg (by simpa using hl) (λi c x h1 h2=>?_);exact ih i (c.aW g) x (by simp[h1]) h2 rfl (n2 hn i c h1)
 |bC hl _ ih=>
  intro a e hn;cases a<;>simp[AV.aW]at e;subst e;refine .bC (by simpa using hl) (λi c x h1 h2=>?_);exact ih i (c.aW g) x (by simp[h1]) h2 rfl (n2 hn i c h1)
 |fn hx hy _ _ i1 i2=>
  intro a e hn;cases a<;>simp[AV.aW]at e;obtain⟨rfl,rfl,rfl⟩:=e;simp only[cY,bN]at hn;refine .fn (by simpa using hx) (by simpa using hy) (λi c x h1 h2=>?_) (λi c x h1 h2=>?_)
  ·exact i1 i (c.aW g) x (by simp[h1]) h2 rfl (n2 hn.1 i c h1)
  ·exact i2 i (c.aW g) x (by simp[h1]) h2 rfl (n2 hn.2 i c h1)
 |dC _ ih=>
  intro a e hn;cases a<;>simp[AV.aW]at e;obtain⟨rfl,rfl⟩:=e;exact .dC (ih rfl hn)
theorem Hb (hs:∀b,p b=true->∀x,σ0 b=some x->σ (g b)=some x){k:aN}{v:Value}(h:RB σ0 I w k v)(hn:bI p k=true):RB σ I w (k.aW g) v:=by
 cases h with
 |cells hw hl hr=>
  refine .cells hw (by simpa using hl) (λi c x h1 h2=>?_);simp only[fN]at h1;obtain⟨c',hc',rfl⟩:=iU.1 h1;exact O4 hs (hr i c' x hc' h2) (n2 hn i c' hc')
 |none=>exact .none
 |emp a=>exact .emp a
 |grow h1 h2 h3 h4 h5 h6=>exact .grow h1 h2 h3 h4 h5 h6
 |map keys vals h1 h0 h2 h3 h4 h5=>exact .map keys vals h1 h0 h2 h3 h4 h5
 |iL keys vals h1 hst h0 hkc hfk h2 h3 h4 h5=>exact .iL keys vals h1 (hs _ hn _ hst) h0 hkc hfk h2 h3 h4 h5
 | @cL es clock n hole h1 h2=>
   have e:dQ σ (hole.map λq=>(q.1,g q.2)) es=dQ σ0 hole es:=FJ (by cases hole<;>rfl) λq q' a b=>by
    subst a;simp at b;subst b;obtain⟨v,h3,_⟩:=h2 q rfl;rw[h3];exact hs _ hn _ h3
   refine .cL (by rw[e];exact h1) (λq a=>?_);cases hole with
   |none=>simp at a
   |some q0=>
    simp at a;subst a;obtain⟨v,h3,h4⟩:=h2 q0 rfl;exact⟨v,hs _ hn _ h3,h4⟩
 |iter h1 h2=>exact .iter h1 h2
 |oV=>exact .oV
 |n3 a=>exact .n3 a
 | @cQ ps T n cap arr h1 h2 h3 h4 h5=>
   have:=RB.cQ (σ:=σ) (I:=I) (ps:=ps.map g) (T:=T) h1 h2 (by simpa using h3) h4 (λi b hi=>by
    rw[fN]at hi;obtain⟨b',hb',rfl⟩:=iU.1 hi;obtain⟨m,q1,q2⟩:=h5 i b' hb';exact⟨m,hs _ (cS.1 hn b' (gI hb')) _ q1,q2⟩)
   rwa[vW]at this
theorem vP (hs:∀b,p b=true->∀x,σ (g b)=some x->σ0 b=some x){k:aN}{v:Value}(h:RB σ I w (k.aW g) v)(hn:bI p k=true):RB σ0 I w k v:=by
 cases k with
 |cells cs T=>
  cases h with
  |cells hw hl hr=>
   refine .cells hw (by simpa using hl) (λi c x h1 h2=>?_);exact yB hs (hr i (c.aW g) x (by simp[h1]) h2) rfl (n2 hn i c h1)
 |grow sz es T=>
  cases h with
  |none=>exact .none
  |emp a=>exact .emp a
  |grow h1 h2 h3 h4 h5 h6=>exact .grow h1 h2 h3 h4 h5 h6
 |map ka ks va look=>
  cases h with
  |map keys vals h1 h0 h2 h3 h4 h5=>exact .map keys vals h1 h0 h2 h3 h4 h5
 |iL ka ks va look kc c=>
  cases h with
  |iL keys vals h1 hst h0 hkc hfk h2 h3 h4 h5=>exact .iL keys vals h1 (hs _ hn _ hst) h0 hkc hfk h2 h3 h4 h5
 |cL es clock hole=>
  change RB σ I w (.cL es clock (hole.map λq=>(q.1,g q.2))) v at h;generalize hq:hole.map (λq=>(q.1,g q.2))=hole' at h;cases h with
  |cL h1 h2=>
   subst hq;have e:dQ σ0 hole es=dQ σ (hole.map λq=>(q.1,g q.2)) es:=FJ (by cases hole<;>rfl) λq q' a b=>by
    subst b;simp at a;subst a;obtain⟨v,h3,_⟩:=h2 _ rfl;rw[h3];exact hs _ hn _ h3
   refine .cL (by rw[e];exact h1) (λq a=>?_);subst a;obtain⟨v,h3,h4⟩:=h2 _ rfl;exact⟨v,hs _ hn _ h3,h4⟩
 |iter s pos=>
  cases h with
  |iter h1 h2=>exact .iter h1 h2
 |cQ ps T=>
  change RB σ I w (.cQ (ps.map g) T) v at h;generalize hq:ps.map g=qs at h;cases h with
  |oV=>
   obtain rfl:ps=[]:=List.map_eq_nil_iff.1 hq;exact .oV
  |n3 a=>
   obtain rfl:ps=[]:=List.map_eq_nil_iff.1 hq;exact .n3 a
  |cQ h1 h2 h3 h4 h5=>
   subst hq;rw[vW]at h3⊢;refine .cQ h1 h2 h3 h4 (λi b hi=>?_);obtain⟨m,q1,q2⟩:=h5 i (g b) (by rw[fN,hi];rfl);exact⟨m,hs _ (cS.1 hn b (gI hi)) _ q1,q2⟩
end
def aP :List (Nat×aN)->Nat->Option aN
 |[],_=>none
 | (c,k)::r,b=>if c=b then some k else aP r b
theorem gR {l:List (Nat×aN)}{b:Nat}{k:aN}(h:aP l b=some k):(b,k)∈l:=by
 induction l with
 |nil=>cases h
 |cons p l ih=>
  simp only[aP]at h
  grind
def GF (G:(Nat->Prop)->World->Prop)(fin:Value->Ending)(P:Program)(f:FuncId)(args:List AV)(mr m:List (Nat×aN))(res:AV)(m':List (Nat×aN)):Prop:=
 ∀(σ:Names) (I:Nat->Prop) (w:World) (vs:List Value),G I w->(∀n,I n->n<w.heap.size)->vs.length=args.length->
  (∀(i:Nat) c x,args[i]? =some c->vs[i]? =some x->RV σ I w c x)->RM σ I w (aP (mr++m))->(∀b,64<=b->σ b=none)->
  Calls P f vs.toArray w λe w'=>∃v σ' I',e=fin v/\cB σ I w (aP (mr++m)) 64 σ' I' w' (aP (mr++m'))/\RV σ' I' w' res v
def Ct (P:Program)(f:FuncId)(args:List AV)(mr m:List (Nat×aN))(res:AV)(m':List (Nat×aN)):Prop:=
 ∀(σ:Names) (I:Nat->Prop) (w:World) (vs:List Value),(∀n,I n->n<w.heap.size)->vs.length=args.length->
  (∀(i:Nat) c x,args[i]? =some c->vs[i]? =some x->RV σ I w c x)->RM σ I w (aP (mr++m))->(∀b,64<=b->σ b=none)->
  Calls P f vs.toArray w λe w'=>∃v σ' I',e=.returned v/\cB σ I w (aP (mr++m)) 64 σ' I' w' (aP (mr++m'))/\RV σ' I' w' res v
theorem Ct.F {P:Program}{f:FuncId}{args:List AV}{mr m:List (Nat×aN)}{res:AV}{m':List (Nat×aN)}(h:Ct P f args mr m res m'):GF (λ_ _=>True) .returned P f args mr m res m':=λσ I w vs _=>h σ I w vs
def w5 (p:D->D->Prop):List D->List D->Prop
 |[],[]=>True
 |x::xs,y::ys=>p x y/\w5 p xs ys
 |_,_=>False
def u6 (p:D->D->Prop):List (List D)->List (List D)->Prop
 |[],[]=>True
 |x::xs,y::ys=>w5 p x y/\u6 p xs ys
 |_,_=>False
def pQ :Nat->D->D->Prop
 |_,.v (.slice none 0 0),.ro _ []=>True
 |n+1,.ro fc es,.ro fc' fs=>(fc'=true->fc=true)/\(es=fs\/u6 (pQ n) es fs)
 |_,a,b=>a=b
abbrev EJ (a b:D):Prop:=pQ 4 a b
def cG :AV->AV->Prop
 |.d x,.d y=>EJ x y
 |.agg xs,.agg ys=>leL xs ys
 |.bC xs,.bC ys=>leL xs ys
 |.d (.v (.bool _)),.ab=>True
 |_,.any=>True
 |a,b=>a=b
where leL:List AV->List AV->Prop
 |[],[]=>True
 |x::xs,y::ys=>cG x y/\leL xs ys
 |_,_=>False
theorem w4 {p:D->D->Prop}:∀{xs ys:List D},w5 p xs ys->xs.length=ys.length/\∀(i:Nat) x y,xs[i]? =some x->ys[i]? =some y->p x y
 |[],[],_=>⟨rfl,λi x y h=>by simp at h⟩
 |x::xs,y::ys,h=>by
  obtain⟨h1,h2⟩:=w4 h.2;refine⟨by simp[h1],λi a b ha hb=>?_⟩;cases i with
  |zero=>simp at ha hb;rw[<-ha,<-hb];exact h.1
  |succ i=>exact h2 i a b (by simpa using ha) (by simpa using hb)
 |[],_::_,h=>h.elim
 |_::_,[],h=>h.elim
theorem EI {p:D->D->Prop}:∀{xs ys:List (List D)},u6 p xs ys->xs.length=ys.length/\∀(i:Nat) x y,xs[i]? =some x->ys[i]? =some y->w5 p x y
 |[],[],_=>⟨rfl,λi x y h=>by simp at h⟩
 |x::xs,y::ys,h=>by
  obtain⟨h1,h2⟩:=EI h.2;refine⟨by simp[h1],λi a b ha hb=>?_⟩;cases i with
  |zero=>simp at ha hb;rw[<-ha,<-hb];exact h.1
  |succ i=>exact h2 i a b (by simpa using ha) (by simpa using hb)
 |[],_::_,h=>h.elim
 |_::_,[],h=>h.elim
theorem LH {I:Nat->Prop}{w:World}:∀(n:Nat) {a b:D} {v:Value},pQ n a b->RD I w a v->RD I w b v:=by
 intro n;induction n with
 |zero=>
  intro a b v h hv;unfold pQ at h;split at h
  ·cases hv;exact .nil
  ·omega
  ·simp_all
 |succ n ih=>
  intro a b v h hv;unfold pQ at h;split at h
  ·cases hv;exact .nil
  ·rename_i m fc es fc' fs e;obtain rfl:n=m:=by omega
   obtain⟨hf,rfl|hl⟩:=h
   ·cases hv with
    |nil=>exact .nil
    |emp=>exact .emp
    |ro val hI h1 h2 h3 h4 h5 h6 h7=>exact .ro val hI h1 h2 h3 (λh=>h4 (hf h)) h5 h6 h7
   ·obtain⟨hll,hlg⟩:=EI hl;cases hv with
    |nil=>
     obtain rfl:fs=[]:=gX (by simpa using hll.symm);exact .nil
    |emp=>
     obtain rfl:fs=[]:=gX (by simpa using hll.symm);exact .emp
    | @ro sz _ _ aS off cap val hI h1 h2 h3 h4 h5 h6 h7=>
      have hg:∀(i:Nat) e (j:Nat) c,fs[i]? =some e->e[j]? =some c->∃e0 c0,es[i]? =some e0/\e0[j]? =some c0/\pQ n c0 c:=by
       intro i e j c he hc;have hi:i<es.length:=by rw[hll];exact(cJ.1 he).1
       obtain⟨q1,q2⟩:=w4 (hlg i es[i] e (bL hi) he);have hj:j<es[i].length:=by rw[q1];exact(cJ.1 hc).1
       exact⟨es[i],es[i][j],bL hi,bL hj,q2 j _ c (bL hj) hc⟩
      rw[hll];refine .ro (sz:=sz) val hI (λe he=>?_) (by omega) h3 (λh=>by rw[h4 (hf h),hll]) (λi e j c he hc=>?_) (λi e j c he hc=>?_) (λi e j c he hc=>?_)
      ·obtain⟨i,hi⟩:=sO he;have hi':i<es.length:=by rw[hll];exact(cJ.1 hi).1
       rw[<-(w4 (hlg i es[i] e (bL hi') hi)).1];exact h1 _ (mD _)
      ·obtain⟨e0,c0,g1,g2,_⟩:=hg i e j c he hc;exact h5 i e0 j c0 g1 g2
      ·obtain⟨e0,c0,g1,g2,g3⟩:=hg i e j c he hc;exact ih g3 (h6 i e0 j c0 g1 g2)
      ·obtain⟨e0,c0,g1,g2,_⟩:=hg i e j c he hc;exact h7 i e0 j c0 g1 g2
  ·subst h;exact hv
theorem X5 {I:Nat->Prop}{w:World}{a b:D}{v:Value}(h:EJ a b)(hv:RD I w a v):RD I w b v:=LH 4 h hv
theorem wZ :∀{xs ys:List AV},cG.leL xs ys->xs.length=ys.length/\∀(i:Nat) x y,xs[i]? =some x->ys[i]? =some y->cG x y
 |[],[],_=>⟨rfl,λi x y h=>by simp at h⟩
 |x::xs,y::ys,h=>by
  obtain⟨h1,h2⟩:=wZ h.2;refine⟨by simp[h1],λi a b ha hb=>?_⟩;cases i with
  |zero=>simp at ha hb;rw[<-ha,<-hb];exact h.1
  |succ i=>exact h2 i a b (by simpa using ha) (by simpa using hb)
 |[],_::_,h=>h.elim
 |_::_,[],h=>h.elim
theorem AL {σ:Names}{I:Nat->Prop}{w:World}{a:AV}{v:Value}(hv:RV σ I w a v):∀{b:AV},cG a b->RV σ I w b v:=by
 induction hv with
 | @d x y hd=>
   intro b h;cases b with
   |d z=>exact .d (X5 h hd)
   |any=>exact .any _
   |ab=>
    obtain⟨t,rfl⟩:∃t,x=.v (.bool t):=by
     cases x with
     |v y=>cases y<;>simp[cG]at h⊢
     |_=>simp[cG]at h
    cases hd;exact .ab _
   |_=>simp[cG]at h
 | @agg cs xs hl hr ih=>
   intro b h;cases b with
   |agg ys=>
    obtain⟨h1,h2⟩:=wZ (by simpa[cG]using h);refine .agg (by rw[hl,h1]) (λi c x hc hx=>?_)
    grind
   |any=>exact .any _
   |_=>simp[cG]at h
 | @bC cs xs hl hr ih=>
   intro b h;cases b with
   |bC ys=>
    obtain⟨h1,h2⟩:=wZ (by simpa[cG]using h);refine .bC (by rw[hl,h1]) (λi c x hc hx=>?_)
    grind
   |any=>exact .any _
   |_=>simp[cG]at h
 |any y=>
  intro b h;cases b<;>first|exact .any _| (simp[cG]at h;done)
 |ab t=>
  intro b h;cases b<;>first|exact .any _|exact .ab _| (simp[cG]at h;done)
 |ptr h0=>
  intro b h;cases b<;>first|exact .any _| (simp[cG]at h;try obtain⟨rfl,rfl⟩:=h;exact .ptr h0)| (simp at h;done)
 |own h0 h1=>
  intro b h;cases b<;>first|exact .any _| (simp[cG]at h;subst h;exact .own h0 h1)| (simp[cG]at h;done)
 |dM h0=>
  intro b h;cases b<;>first|exact .any _| (simp[cG]at h;obtain⟨rfl,rfl,rfl,rfl⟩:=h;exact .dM h0)| (simp[cG]at h;done)
 |sl h0 hs=>
  intro b h;cases b<;>first|exact .any _| (simp[cG]at h;obtain⟨rfl,rfl,rfl,rfl⟩:=h;exact .sl h0 hs)| (simp[cG]at h;done)
 |fn hx hy h1 h2 i1 i2=>
  intro b h;cases b<;>first|exact .any _| (simp[cG]at h;obtain⟨rfl,rfl,rfl⟩:=h;exact .fn hx hy h1 h2)| (simp[cG]at h;done)
 |dC h0 ih=>
  intro b h;cases b<;>first|exact .any _| (simp[cG]at h;obtain⟨rfl,rfl⟩:=h;exact .dC h0)| (simp[cG]at h;done)
def kV :AV->Option (FuncId×List AV×List AV)
 |.d (.v (.func (.func f) first captured))=>some (f,first.toList.map λv=>.d (.v v),captured.toList.map λv=>.d (.v v))
 |.fn (.func f) first captured=>some (f,first,captured)
 |.d (.fn (.func f) first captured)=>some (f,first.map .d,captured.map .d)
 |_=>none
theorem Dm {σ:Names}{I:Nat->Prop}{w:World}{x:AV}{v:Value}{f:FuncId}{first captured:List AV}(h:kV x=some (f,first,captured))(hv:RV σ I w x v):
  ∃xs ys:List Value,v=.func (.func f) xs.toArray ys.toArray/\xs.length=first.length/\ys.length=captured.length/\
   (∀(i:Nat) c y,first[i]? =some c->xs[i]? =some y->RV σ I w c y)/\∀(i:Nat) c y,captured[i]? =some c->ys[i]? =some y->RV σ I w c y:=by
 unfold kV at h;split at h
 ·rename_i fst cap;cases h;refine⟨fst.toList,cap.toList,by rw[cH hv],by simp,by simp,λi c y h1 h2=>?_,λi c y h1 h2=>?_⟩<;>
  ·simp at h1 h2;obtain⟨z,hz,rfl⟩:=h1;rw[h2]at hz;cases hz;exact .d (.v _)
 ·cases h;cases hv with
  |fn hx hy h1 h2=>exact⟨_,_,rfl,hx,hy,h1,h2⟩
 ·cases h;cases hv with
  |d hv=>
   cases hv with
   |fn hx hy h1 h2=>
    refine⟨_,_,rfl,by simpa using hx,by simpa using hy,λi c y k1 k2=>?_,λi c y k1 k2=>?_⟩
    ·simp at k1;obtain⟨z,hz,rfl⟩:=k1;exact .d (h1 i z y hz k2)
    ·simp at k1;obtain⟨z,hz,rfl⟩:=k1;exact .d (h2 i z y hz k2)
 ·cases h
def Enters (P:Program)(f:FuncId):Prop:=∀(args:Array Value) (w:World),(callFunc f args).run P w=.ok (.enter f args) w
def bT (bn:List Nat)(nm:Nat)(b:Nat):Nat:=if b<64 then bn.getD b 0 else nm+(b-64)
def eS (bn:List Nat)(nm:Nat)(mr m:List (Nat×aN))(res:AV)(m':List (Nat×aN)):aG:=
 ⟨res.aW (bT bn nm),mr.map λp=>bT bn nm p.1,
   (m.map λp=>(bT bn nm p.1,(aP m' p.1).map (aN.aW (bT bn nm))))++(m'.filter λp=>decide (64<=p.1)).map λp=>(bT bn nm p.1,some (p.2.aW (bT bn nm)))⟩
def kE (n:Nat)(b:Nat):Bool:=decide (b<n)|| (decide (64<=b)&&decide (b<128))
structure oH (bn:List Nat)(args:List AV)(mr m:List (Nat×aN))(res:AV)(m':List (Nat×aN)):Prop where
 len:bn.length<=64
 nodup:bn.Nodup
 args:cY.gS (λb=>decide (b<bn.length)) args=true
 pre:∀p∈mr++m,p.1<bn.length/\bI (λb=>decide (b<bn.length)) p.2=true
 keys:((mr++m).map (·.1)).Nodup
 res:cY (kE bn.length) res=true
 post:∀p∈mr++m',kE bn.length p.1=true/\bI (kE bn.length) p.2=true
 oT:((mr++m').map (·.1)).Nodup
theorem wX {l:List (Nat×aN)}(hn:(l.map (·.1)).Nodup){b:Nat}{k:aN}(h:(b,k)∈l):aP l b=some k:=by
 induction l with
 |nil=>cases h
 |cons p l ih=>
  obtain⟨c,q⟩:=p;simp only[fM,List.nodup_cons]at hn;rcases iF.1 h with e|h
  ·cases e;simp[aP]
  ·have hne:c≠b:=λe=>hn.1 (e▸dV.2 ⟨_,h,rfl⟩);simp only[aP,aR hne];exact ih hn.2 h
theorem PH {l:List (Nat×Option aN)}{b:Nat}{k:Option aN}(h:wrote l b=some k):(b,k)∈l:=by
 induction l with
 |nil=>cases h
 |cons p l ih=>
  simp only[wrote]at h
  grind
theorem getD_inj {l:List Nat}(hn:l.Nodup){i j:Nat}(hi:i<l.length)(hj:j<l.length)(h:l.getD i 0=l.getD j 0):i=j:=by
 have h1:l.getD i 0=l[i]:=by grind
 have h2:l.getD j 0=l[j]:=by grind
 rw[h1,h2]at h;exact(List.getElem?_inj hi hn).1 (by rw[bL hi,bL hj,h])
section
variable {bn : List Nat} {nm : Nat} {args : List AV} {mr m m' : List (Nat × aN)} {res : AV} {mem : Mem}
theorem Dt (hk:∀p∈mr++m,mem (bT bn nm p.1)=some (p.2.aW (bT bn nm))){b:Nat}{k:aN}(h:aP (mr++m) b=some k):(eS bn nm mr m res m').mr mem (bT bn nm b)=some (k.aW (bT bn nm)):=by
 have hmem:=gR h;refine aG.eZ (hk _ hmem) ?_;rcases fZ.1 hmem with h|h
 ·exact .inl (dV.2 ⟨_,h,rfl⟩)
 ·refine .inr ((yQ _ _).2 ?_);simp only[eS,sM,List.map_map];exact fZ.2 (.inl (dV.2 ⟨_,h,rfl⟩))
theorem Ds (hn:oH bn args mr m res m')(hk:∀p∈mr++m,mem (bT bn nm p.1)=some (p.2.aW (bT bn nm))){c:Nat}{q:aN}(h:(eS bn nm mr m res m').mw mem c=some q):
  ∃b k,aP (mr++m') b=some k/\c=bT bn nm b/\q=k.aW (bT bn nm)/\((aP (mr++m) b).isSome\/(64<=b/\b<128)):=by
 simp only[aG.mw]at h;split at h
 ·rename_i o ho;subst h;have hm:=PH ho;rcases fZ.1 hm with h|h
  ·obtain⟨p,hp,e⟩:=dV.1 h;simp only[Prod.mk.injEq]at e;obtain⟨rfl,e⟩:=e;obtain⟨k,hk',rfl⟩:=iU.1 e;refine⟨p.1,k,wX hn.oT (fZ.2 (.inr (gR hk'))),rfl,rfl,.inl ?_⟩;rw[wX hn.keys (fZ.2 (.inr hp))];rfl
  ·obtain⟨p,hp,e⟩:=dV.1 h;obtain⟨rfl,rfl⟩:=e;obtain⟨hp1,hp2⟩:=jK.1 hp;simp at hp2;have hlt:p.1<128:=by
    have:=(hn.post p (fZ.2 (.inr hp1))).1;simp only[kE,pG,dO,bN]at this;have:=hn.len;omega
   exact⟨p.1,p.2,wX hn.oT (fZ.2 (.inr hp1)),rfl,rfl,.inr ⟨hp2,hlt⟩⟩
 ·split at h
  ·rename_i hc;obtain⟨p,hp,rfl⟩:=dV.1 hc;rw[hk p (fZ.2 (.inl hp))]at h;cases h;refine⟨p.1,p.2,wX hn.oT (fZ.2 (.inl hp)),rfl,rfl,.inl ?_⟩;rw[wX hn.keys (fZ.2 (.inl hp))];rfl
  ·cases h
theorem N6 {P:Program}{o:Oper}{c:Call}{fo:Operand}{G:(Nat->Prop)->World->Prop}{fin:Value->Ending}(ho:o.op=.call c)(hc:c.callee=.value fo){tm:Nat->AV}{mem:Mem}{nm:Nat}{f:FuncId}{first captured:List AV}
  (hf:kV (ev tm fo)=some (f,first,captured)) (hen:Enters P f) (hct:GF G fin P f args mr m res m') (ha:cG.leL (first++c.args.toList.map (ev tm)++captured) (args.map (AV.aW (bT bn nm)))) (hn:oH bn args mr m res m')
  (hk:∀p∈mr++m,mem (bT bn nm p.1)=some (p.2.aW (bT bn nm))) {a:Act} {w:World} {σ:Names} {I:Nat->Prop} (hG:G I w) (h1:∀n,I n->n<w.heap.size)
  (h2:∀t,Operand.tmp t∈o.op.operands->RV σ I w (tm t) (a.tmps.getD t undef)) (h3:RM σ I w ((eS bn nm mr m res m').mr mem)) (h4:∀b,fresh nm b->σ b=none):
  ∃vs:Array Value,(execOp a.eval o).run P w=.ok (.enter f vs) w/\Calls P f vs w λe w'=>∃v σ' I',e=fin v/\cB σ I w ((eS bn nm mr m res m').mr mem) nm σ' I' w' ((eS bn nm mr m res m').mw mem)/\RV σ' I' w' (eS bn nm mr m res m').res v:=by
 obtain⟨xs,ys,e1,lx,ly,rx,ry⟩:=Dm hf (bO (σ:=σ) (I:=I) (w:=w) (a:=a) (x:=fo) λs e=>h2 s (by subst e;simp[ho,Op.operands,Call.operands,hc]));have harg:∀x∈c.args.toList,RV σ I w (ev tm x) (a.eval x):=λx hx=>bO λs e=>h2 s (by subst e;simp[ho,Op.operands,Call.operands];exact .inr (by simpa using hx));have hrun:(execOp a.eval o).run P w=.ok (.enter f (xs++c.args.toList.map a.eval++ys).toArray) w:=by
  have e3:(xs++c.args.toList.map a.eval++ys).toArray=xs.toArray++c.args.map a.eval++ys.toArray:=by
   apply Array.ext';simp
  have e4:=hen (xs.toArray++c.args.map a.eval++ys.toArray) w;rw[<-e3]at e4;rw[<-e4,e3];simp[execOp,ho,resolve,hc,e1,Deferred.ofValue,invoke]
 refine⟨_,hrun,?_⟩
 let σ0:Names:=λb=>if b<bn.length then σ (bT bn nm b)else none
 have hg:∀b,b<bn.length->bT bn nm b=bn.getD b 0:=λb hb=>by simp only[bT];rw[bA (by have:=hn.len;omega)]
 have hs0:∀b,decide (b<bn.length)=true->∀x,σ (bT bn nm b)=some x->σ0 b=some x:=λb hb x hx=>by simp only[σ0];rw[bA (by simpa using hb)];exact hx
 obtain⟨hla,hle⟩:=wZ ha;have hlen0:(xs++c.args.toList.map a.eval++ys).length=args.length:=by
  have:(first++c.args.toList.map (ev tm)++captured).length=args.length:=by rw[hla];simp
  rw[<-this];simp[lx,ly]
 have hargs:∀(i:Nat) q v,args[i]? =some q->(xs++c.args.toList.map a.eval++ys)[i]? =some v->RV σ0 I w q v:=by
  intro i q v hq hv;have hlt:i<(first++c.args.toList.map (ev tm)++captured).length:=by rw[hla];simpa using(cJ.1 hq).1
  obtain⟨A,hA⟩:∃A,(first++c.args.toList.map (ev tm)++captured)[i]? =some A:=⟨_,bL hlt⟩;have hav:RV σ I w A v:=by
   rw[CH]at hA hv;by_cases hi:i<first.length
   ·rw[lS hi]at hA;rw[lS (by omega)]at hv;exact rx i A v hA hv
   ·rw[mF (by omega)]at hA;rw[mF (by omega),lx]at hv;by_cases hj:i-first.length<c.args.size
    ·rw[lS (by simpa using hj)]at hA;rw[lS (by simpa using hj)]at hv;simp only[fN]at hA hv;cases hx:c.args.toList[i-first.length]? with
     |none=>simp[hx]at hA
     |some x=>
      rw[hx]at hA hv;simp only[lF,mV]at hA hv;subst hA;subst hv;exact harg x (gI hx)
    ·rw[mF (by simpa using hj)]at hA;rw[mF (by simpa using hj)]at hv;simp only[vW]at hA hv;exact ry _ A v hA hv
  have h5:=AL hav (hle i A (q.aW (bT bn nm)) hA (by simp[hq]));exact yB hs0 h5 rfl (n2 hn.args i q hq)
 have hmr:∀b k,aP (mr++m) b=some k->(eS bn nm mr m res m').mr mem (bT bn nm b)=some (k.aW (bT bn nm)):=λb k h=>Dt hk h;have hpre:∀b k,aP (mr++m) b=some k->b<bn.length/\bI (λb=>decide (b<bn.length)) k=true:=λb k h=>hn.pre _ (gR h);have hinj:∀b b',b<bn.length->b'<bn.length->bT bn nm b=bT bn nm b'->b=b':=λb b' h h' e=>getD_inj hn.nodup h h' (by rw[<-hg b h,<-hg b' h',e]);have hrm0:RM σ0 I w (aP (mr++m)):=by
  refine⟨λb k hb=>?_,λb b' k k' x x' n hb hb' hx hx' e e'=>?_⟩
  ·obtain⟨x,hx,hrb,hnn⟩:=h3.aS _ _ (hmr b k hb);obtain⟨p1,p2⟩:=hpre b k hb;exact⟨x,hs0 b (by simpa using p1) x hx,vP hs0 hrb p2,hnn⟩
  ·obtain⟨p1,p2⟩:=hpre b k hb;obtain⟨p1',p2'⟩:=hpre b' k' hb';simp only[σ0,bA p1]at hx;simp only[σ0,bA p1']at hx';exact hinj b b' p1 p1' (h3.apart _ _ _ _ x x' n (hmr b k hb) (hmr b' k' hb') hx hx' e e')
 have hfree0:∀b,64<=b->σ0 b=none:=λb hb=>by simp only[σ0];rw[aR (by have:=hn.len;omega)]
 have own0:∀n,cR σ0 (aP (mr++m)) n->cR σ ((eS bn nm mr m res m').mr mem) n:=by
  rintro n ⟨b,k,x,hb,hx,e⟩;obtain⟨p1,p2⟩:=hpre b k hb;simp only[σ0,bA p1]at hx;exact⟨_,_,x,hmr b k hb,hx,e⟩
 refine(hct σ0 I w _ hG h1 hlen0 hargs hrm0 hfree0).mono (λe w' he=>?_);obtain⟨v,σ1,I',rfl,hp,hrv⟩:=he
 let σ':Names:=λb=>if nm<=b/\b<nm+64 then σ1 (64+(b-nm))else σ b
 have hnf:∀b x,σ b=some x->¬(nm<=b/\b<nm+64):=λb x hx h=>by rw[h4 b h]at hx;cases hx
 have hs':∀b,kE bn.length b=true->∀x,σ1 b=some x->σ' (bT bn nm b)=some x:=by
  intro b hb x hx;simp only[kE,pG,dO,bN]at hb;rcases hb with hb|⟨hb1,hb2⟩
  ·cases h0:σ0 b with
   |none=>
    have:=hp.new b h0 (by rw[hx];simp);have:=this.1;have:=hn.len;omega
   |some y=>
    have h6:=hp.names b y h0;rw[hx]at h6;cases h6;simp only[σ0,bA hb]at h0;simp only[σ'];rw[aR (hnf _ _ h0)];exact h0
  ·have e1:bT bn nm b=nm+(b-64):=by simp only[bT];rw[aR (by omega)]
   simp only[σ',e1];rw[bA (by omega),show 64+(nm+(b-64)-nm)=b by omega];exact hx
 have hpost:∀b k,aP (mr++m') b=some k->kE bn.length b=true/\bI (kE bn.length) k=true:=λb k h=>hn.post _ (gR h);have hmw:=λ{c q} (h:(eS bn nm mr m res m').mw mem c=some q)=>Ds (mem:=mem) hn hk h
 refine⟨v,σ',I',rfl,?_,O4 hs' hrv hn.res⟩;refine⟨hp.os,hp.tape,hp.output,hp.size,λb x hx=>?_,λb hb1 hb2=>?_,hp.pV,hp.ib,λn hn'=>?_,λn hn1 hn2=>hp.frame n hn1 (λho=>hn2 (own0 n ho)),⟨λc q hq=>?_,λc c' q q' x x' n hq hq' hx hx' e e'=>?_⟩,λc q hq=>?_,λn ho=>?_⟩
 ·simp only[σ'];rw[aR (hnf _ _ hx)];exact hx
 ·simp only[σ']at hb2;split at hb2
  ·rename_i h;exact h
  ·exact absurd hb1 hb2
 ·rcases hp.fB n hn' with g|g|g
  ·exact .inl g
  ·exact .inr (.inl g)
  ·exact .inr (.inr (own0 n g))
 ·obtain⟨b,k,hb,rfl,rfl,_⟩:=hmw hq;obtain⟨x,hx,hrb,hnn⟩:=hp.mem.aS b k hb;obtain⟨p1,p2⟩:=hpost b k hb;exact⟨x,hs' b p1 x hx,Hb hs' hrb p2,hnn⟩
 ·obtain⟨b,k,hb,rfl,rfl,_⟩:=hmw hq;obtain⟨b',k',hb',rfl,rfl,_⟩:=hmw hq';obtain⟨y,hy,_,_⟩:=hp.mem.aS b k hb;obtain⟨y',hy',_,_⟩:=hp.mem.aS b' k' hb';have:=hs' b (hpost b k hb).1 y hy;rw[hx]at this;cases this;have:=hs' b' (hpost b' k' hb').1 y' hy';rw[hx']at this;cases this;rw[hp.mem.apart b b' k k' _ _ n hb hb' hy hy' e e']
 ·obtain⟨b,k,hb,rfl,rfl,hor⟩:=hmw hq;rcases hor with h|⟨h,h'⟩
  ·obtain⟨k0,hk0⟩:=oJ.1 h;exact .inl (by rw[hmr b k0 hk0];simp)
  ·have e1:bT bn nm b=nm+(b-64):=by simp only[bT];rw[aR (by omega)]
   exact .inr (by rw[e1];exact⟨by omega,by omega⟩)
 ·obtain⟨c,q,x,hq,hx,e⟩:=ho;obtain⟨b,k,hb,rfl,rfl,_⟩:=hmw hq;obtain⟨y,hy,_,_⟩:=hp.mem.aS b k hb;have:=hs' b (hpost b k hb).1 y hy;rw[hx]at this;cases this;rcases hp.eM n ⟨b,k,_,hb,hy,e⟩with g|g
  ·exact .inl (own0 n g)
  ·exact .inr g
theorem J3 {P:Program}{o:Oper}{c:Call}{fo:Operand}(ho:o.op=.call c)(hc:c.callee=.value fo)(tm:Nat->AV)(mem:Mem)(nm:Nat){f:FuncId}{first captured:List AV}
  (hf:kV (ev tm fo)=some (f,first,captured)) (hen:Enters P f) (hct:Ct P f args mr m res m') (ha:cG.leL (first++c.args.toList.map (ev tm)++captured) (args.map (AV.aW (bT bn nm)))) (hn:oH bn args mr m res m')
  (hk:∀p∈mr++m,mem (bT bn nm p.1)=some (p.2.aW (bT bn nm))):
  aO P o tm ((eS bn nm mr m res m').mr mem) nm (eS bn nm mr m res m').res ((eS bn nm mr m res m').mw mem):=by
 intro a w σ I h1 h2 h3 h4 next Q hnx;obtain⟨vs,hrun,hcall⟩:=N6 ho hc hf hen hct.F ha hn hk trivial h1 h2 h3 h4;simp only[Oper.wp,hrun];refine hcall.mono λe w' ⟨v,σ',I',he,hp,hv⟩=>?_;subst he;exact hnx v σ' I' w' hp hv
end
def rX (P:Program)(x:X):List ResultVar->Option (List AV)
 |[]=>some []
 |.tmp t::r=>(rX P x r).map λl=>bH x.tm t::l
 |.cell a T::r=>match aH P T with
  |some ti=>match qX ti.agg ti.sz (bG x.mm) (bH x.tm a),rX P x r with
   |some e,some l=>some (e.res::l)
   |_,_=>none
  |none=>none
def u1 (P:Program)(fn:Func)(x:X):Option AV:=
 match rX P x fn.results.toList with
 |some [r]=>some r
 |some l=>some (.bC l)
 |none=>none
def mP :Nat->List AV->List (Nat×AV)
 |_,[]=>[]
 |i,a::r=>(i,a)::mP (i+1) r
theorem AF :∀(l:List AV) (i t:Nat),bH (mP i l) t=if i<=t then(l[t-i]?).getD .any else .any
 |[],i,t=>by simp[mP,bH]
 |a::r,i,t=>by
  simp only[mP,bH,AF r (i+1) t];by_cases e:i=t
  ·subst e;simp
  ·by_cases h:i<=t
   ·have:t-i=(t-(i+1))+1:=by omega
    simp[e,h,show i+1<=t by omega,this]
   ·simp[e,h,show¬i+1<=t by omega]
theorem RM.sub {σ:Names}{I:Nat->Prop}{w:World}{m m':Mem}(hm:RM σ I w m)(h:∀b k,m' b=some k->m b=some k):RM σ I w m':=
 ⟨λb k hb=>hm.aS b k (h b k hb),λb b' k k' x x' n h1 h2 h3 h4 h5 h6=>hm.apart b b' k k' x x' n (h b k h1) (h b' k' h2) h3 h4 h5 h6⟩
theorem aG.XJ {e:aG}{m:Mem}:∀b k,e.mr m b=some k->m b=some k:=by
 intro b k hb;simp only[aG.mr]at hb;split at hb
 ·exact hb
 ·cases hb
def rW (tmps:Array Value):ResultVar->Sem Value
 |.tmp t=>pure (tmps.getD t undef)
 |.cell a t=>do loadVar t (<-asAddr (tmps.getD a undef))
theorem zA {E:Ctx}{x:X}{σ:Names}{I:Nat->Prop}{a:Act}{w:World}(hr:jH E x.den σ I a w):∀(rs:List ResultVar) (l:List AV),rX E.P x rs=some l->
  ∃vs:List Value,(rs.mapM (rW a.tmps)).run E.P w=.ok vs w/\vs.length=l.length/\∀(i:Nat) c v,l[i]? =some c->vs[i]? =some v->RV σ I w c v
 |[],l,h=>by cases h;exact⟨[],by rw[List.mapM_nil];rfl,rfl,λi c v h=>by simp at h⟩
 |.tmp t::rs,l,h=>by
  simp only[rX]at h;cases hl:rX E.P x rs with
  |none=>simp[hl]at h
  |some l'=>
   simp[hl]at h;subst h;obtain⟨vs,h1,h2,h3⟩:=zA hr rs l' hl;refine⟨a.tmps.getD t undef::vs,?_,by simp[h2],λi c v hc hv=>?_⟩
   ·rw[List.mapM_cons];simp only[rW,bV,gW,cC,h1]
   ·cases i with
    |zero=>
     rw[List.getElem?_cons_zero]at hc hv;cases hc;cases hv;exact hr.tm t
    |succ i=>exact h3 i c v (by simpa using hc) (by simpa using hv)
 |.cell ad T::rs,l,h=>by
  simp only[rX]at h;split at h
  ·rename_i ti hT;split at h
   ·rename_i e l' he hl;cases h;obtain⟨vs,h1,h2,h3⟩:=zA hr rs l' hl;obtain⟨q,u,e1,e2,e3⟩:=LC hT he (hr.tm ad) (hr.mm.sub aG.XJ);refine⟨u::vs,?_,by simp[h2],λi c v hc hv=>?_⟩
    ·rw[List.mapM_cons];simp only[rW,bV,e1,asAddr,gW,cC,e2,h1]
    ·cases i with
     |zero=>
      rw[List.getElem?_cons_zero]at hc hv;cases hc;cases hv;exact e3
     |succ i=>exact h3 i c v (by simpa using hc) (by simpa using hv)
   ·cases h
  ·cases h
theorem DG {P:Program}{fn:Func}{tmps:Array Value}{w:World}{vs:List Value}(h:(fn.results.toList.mapM (rW tmps)).run P w=.ok vs w):
  (results fn tmps).run P w=.ok (if h:vs.toArray.size=1 then vs.toArray[0]else .tuple vs.toArray) w:=by
 have e:results fn tmps=(do
   let us<-fn.results.mapM (rW tmps)
   pure (if h:us.size=1 then us[0]else .tuple us)):=by
  congr 1
 have e2:fn.results.mapM (rW tmps)=List.toArray<$>fn.results.toList.mapM (rW tmps):=by
  rw[<-List.mapM_toArray]
 simp_all
theorem S0 {E:Ctx}{x:X}{σ:Names}{I:Nat->Prop}{a:Act}{w:World}(hr:jH E x.den σ I a w){fn:Func}{r:AV}(h:u1 E.P fn x=some r):
  ∃v,(results fn a.tmps).run E.P w=.ok v w/\RV σ I w r v:=by
 unfold u1 at h;split at h
 ·rename_i r' hl;cases h;obtain⟨vs,h1,h2,h3⟩:=zA hr _ _ hl
  match vs,h2,h1,h3 with
  |[v],_,h1,h3=>exact⟨v,by rw[DG h1];rfl,h3 0 r v rfl rfl⟩
 ·rename_i l hne hl;cases h;obtain⟨vs,h1,h2,h3⟩:=zA hr _ _ hl;refine⟨.tuple vs.toArray,?_,.bC h2 h3⟩;rw[DG h1,dif_neg];intro h1';simp at h1';rw[h1']at h2
  match l,h2 with
  |[r'],_=>exact hne r' rfl
 ·cases h
def fP :List (Nat×Nat)->Nat->Option Nat
 |[],_=>none
 | (a,c)::r,b=>if a=b then some c else fP r b
def gf (g:List (Nat×Nat))(b:Nat):Nat:=if b<64 then b else(fP g b).getD b
def bF (m:List (Nat×aN))(g:List (Nat×Nat))(b:Nat):Bool:=(decide (b<64)&&(aP m b).isSome)|| (decide (64<=b)&&(fP g b).isSome)
structure qC (mm:Nat->Option aN)(r:AV)(m:List (Nat×aN))(res:AV)(m':List (Nat×aN))(g:List (Nat×Nat)):Prop where
 Z7:cG (cX (λb=>(m'.map λp=>gf g p.1).contains b) mm 8 r) (res.aW (gf g))
 post:∀p∈m',mm (gf g p.1)=some (p.2.aW (gf g))
 nd:(m'.map λp=>gf g p.1).Nodup
 nd':(m'.map (·.1)).Nodup
 p8:∀p∈m',bF m g p.1=true/\bI (bF m g) p.2=true
 WT:cY (bF m g) res=true
 g:∀q∈g,64<=q.1/\q.1<128
def O3 (mm:Nat->Option aN)(m:List (Nat×aN))(res:AV)(m':List (Nat×aN)):Option AV->Prop
 |some r=>∃g,qC mm r m res m' g
 |none=>False
def oO (P:Program)(fn:Func)(m:List (Nat×aN))(res:AV)(m':List (Nat×aN)):Exit->X->Prop:=λe x=>(e=.normal\/e=.ret)/\O3 (bG x.mm) m res m' (u1 P fn x)
theorem tB (l:List (Nat×aN)):bG (l.map λp=>(p.1,some p.2))=aP l:=by
 induction l with
 |nil=>rfl
 |cons p l ih=>obtain⟨c,k⟩:=p;simp only[fM,bG,aP,ih]
theorem DY {α β:Type}{f:α->β}:∀{l:List α},(l.map f).Nodup->∀{x y:α},x∈l->y∈l->f x=f y->x=y
 |[],_,_,_,h,_,_=>by cases h
 |a::l,hn,x,y,hx,hy,e=>by
  simp only[fM,List.nodup_cons]at hn;rcases iF.1 hx with h1|h1<;>rcases iF.1 hy with h2|h2
  ·rw[h1,h2]
  ·subst h1;exact absurd (dV.2 ⟨y,h2,e.symm⟩) hn.1
  ·subst h2;exact absurd (dV.2 ⟨x,h1,e⟩) hn.1
  ·exact DY hn.2 h1 h2 e
theorem TQ {E:Ctx}{σ:Names}{I:Nat->Prop}{w:World}{vs:List Value}{args:List AV}{m0:List (Nat×aN)}(hw0:E.w0=w)(hbor:E.iQ=cR σ (aP m0))(hI0:E.I0=I)(hs0:E.s0=σ)(hn:args.length<=E.nt)
  (hib:∀n,I n->n<w.heap.size) (hl:vs.length=args.length) (hv:∀(i:Nat) c x,args[i]? =some c->vs[i]? =some x->RV σ I w c x) (hrm:RM σ I w (aP m0)) (hfree:∀b,64<=b->σ b=none):
  Rel E (X.den ⟨mP 0 args,m0.map (λp=>(p.1,some p.2)),64⟩) {tmps:=vs.toArray++Array.replicate (E.nt-vs.toArray.size) undef,defers:=[]} w:=by
 subst hw0 hI0 hs0;have hlk:bG (m0.map λp=>(p.1,some p.2))=aP m0:=tB _;refine⟨E.s0,E.I0,?_,rfl,λt=>?_,?_,λb hb=>hfree b hb,hib,λ_ h=>h,λn h=>.inl h,λn h=>?_,rfl,rfl,⟨rfl,aY _⟩,aY _,λ_ _ _=>rfl,λ_ _ h=>h,hfree⟩
 ·simp_all
 ·simp only[X.den,AF,dY,yF];cases ha:args[t]? with
  |none=>exact .any _
  |some c=>
   have hlt:t<vs.length:=by grind
   have e1:(vs.toArray++Array.replicate (E.nt-vs.toArray.size) undef).getD t undef=vs[t]:=by
    simp[Array.getElem?_append,hlt]
   rw[e1];exact hv t c _ ha (bL hlt)
 ·show RM E.s0 E.I0 E.w0 (bG _);rw[hlk];exact hrm
 ·have h':cR E.s0 (bG (m0.map λp=>(p.1,some p.2))) n:=h;rw[hlk]at h';rw[hbor];exact .inl h'
theorem UX {E:Ctx}{w w':World}{σ σf:Names}{I If:Nat->Prop}{a:Act}{x:X}{m0 m1:List (Nat×aN)}{r res:AV}{v:Value}{g:List (Nat×Nat)}(hw0:E.w0=w)(hbor:E.iQ=cR σ (aP m0))(hI0:E.I0=I)(hs0:E.s0=σ)
  (hrm:RM σ I w (aP m0)) (hfree:∀b,64<=b->σ b=none) (hr:jH E x.den σf If a w') (hfin:qC (bG x.mm) r m0 res m1 g) (h2:RV σf If w' r v):
  ∃σ' I',cB σ I w (aP m0) 64 σ' I' w' (aP m1)/\RV σ' I' w' res v:=by
 subst hw0 hI0 hs0
 let kp:Nat->Bool:=λb=>(m1.map λp=>gf g p.1).contains b
 let I':=given σf If (bG x.mm) kp
 let σ':Names:=λb=>if b<64 then E.s0 b else match fP g b with|some c=>σf c|none=>none
 have hmx:RM σf If w' (bG x.mm):=hr.mm;have hs:∀b,bF m0 g b=true->∀y,σf (gf g b)=some y->σ' b=some y:=by
  intro b hb y hy;simp only[bF,pG,bN,dO]at hb;rcases hb with⟨hb1,hb2⟩|⟨hb1,hb2⟩
  ·obtain⟨k,hk⟩:=oJ.1 hb2;obtain⟨z,hz,_⟩:=hrm.aS b k hk;have:=hr.jW b z hz;simp only[gf]at hy
   grind
  ·obtain⟨c,hc⟩:=oJ.1 hb2;have hnl:¬b<64:=by omega
   simp only[gf,aR hnl,hc]at hy;simp only[σ',aR hnl,hc];exact hy
 have hs':∀b,bF m0 g b=true->∀y,σ' b=some y->σf (gf g b)=some y:=by
  intro b hb y hy;simp only[bF,pG,bN,dO]at hb;rcases hb with⟨hb1,hb2⟩|⟨hb1,hb2⟩
  ·simp only[σ',bA hb1]at hy;simp only[gf,bA hb1];exact hr.jW b y hy
  ·have hnl:¬b<64:=by omega
   obtain⟨c,hc⟩:=oJ.1 hb2;simp only[σ',aR hnl,hc]at hy;simp only[gf,aR hnl,hc];exact hy
 have hrv:RV σ' I' w' res v:=yB hs (AL (wN (kp:=kp) hmx 8 h2) hfin.Z7) rfl hfin.WT;have hblk:∀b k,aP m1 b=some k->∃y,σ' b=some y/\σf (gf g b)=some y/\bG x.mm (gf g b)=some (k.aW (gf g))/\RB σ' I' w' k y/\∀n,AI.hb y=some n->n<w'.heap.size/\¬I' n:=by
  intro b k hb';have hmem:=gR hb';have hpo:=hfin.post _ hmem;obtain⟨d1,d2⟩:=hfin.p8 _ hmem;obtain⟨y,hy,hrb,hnn⟩:=hmx.aS _ _ hpo;have hrb':RB σf I' w' (k.aW (gf g)) y:=hrb.mono (λ_ _=>rfl) (λn h=>.inl h) (λ_ _ h=>h) (λ_ _=>rfl);refine⟨y,hs b d1 y hy,hy,hpo,vP hs hrb' d2,λn hn'=>⟨(hnn n hn').1,?_⟩⟩;rintro(h|⟨b0,hk0,c,q,z,e,q1,q2,q3⟩)
  ·exact(hnn n hn').2 h
  ·cases e;have:=hmx.apart _ _ _ _ _ _ n hpo q1 hy q2 hn' q3;subst this;have:kp (gf g b)=true:=by
    simp only[kp,List.contains_iff_mem];exact dV.2 ⟨_,hmem,rfl⟩
   rw[this]at hk0;cases hk0
 refine⟨σ',I',?_,hrv⟩;refine⟨hr.os,hr.tape,hr.output,hr.hs,λb y hy=>?_,λb hb1 hb2=>?_,λn hn'=>.inl (hr.i0 n hn'),λn hn'=>?_,λn hn'=>?_,λn hn1 hn2=>hr.frame n hn1 (by rw[hbor];exact hn2),⟨λb k hb'=>?_,λb b' k k' y y' n q1 q2 q3 q4 q5 q6=>?_⟩,λb k hb'=>?_,λn ho=>?_⟩
 ·have:b<64:=by
   rcases pC b 64 with h|h
   ·exact h
   ·rw[hfree b h]at hy;cases hy
  simp only[σ',bA this];exact hy
 ·by_cases hlt:b<64
  ·simp only[σ',bA hlt]at hb2;exact absurd hb1 hb2
  ·simp only[σ',aR hlt]at hb2;cases hc:fP g b with
   |none=>rw[hc]at hb2;exact absurd rfl hb2
   |some c=>
    have:∀{g:List (Nat×Nat)},fP g b=some c->(b,c)∈g:=by
     intro g;induction g with
     |nil=>intro h;cases h
     |cons q g ih=>
      obtain⟨a1,a2⟩:=q;intro h;simp only[fP]at h;split at h
      ·rename_i e;cases h;subst e;simp
      ·simp[ih h]
    exact hfin.g _ (this hc)
 ·rcases hn' with h|⟨b0,hk0,c,q,z,e,q1,q2,q3⟩
  ·exact hr.ib n h
  ·obtain⟨z',hz',_,hnn⟩:=hmx.aS _ _ q1;rw[q2]at hz';cases hz';exact(hnn n q3).1
 ·rcases hn' with h|⟨b0,hk0,c,q,z,e,q1,q2,q3⟩
  ·rcases hr.fB n h with g|g|g
   ·exact .inl g
   ·exact .inr (.inr (by rw[hbor]at g;exact g))
   ·exact .inr (.inl g)
  ·rcases hr.eM n ⟨c,q,z,q1,q2,q3⟩with g|g
   ·exact .inr (.inr (by rw[hbor]at g;exact g))
   ·exact .inr (.inl g)
 ·obtain⟨y,p1,p2,p3,p4,p5⟩:=hblk b k hb';exact⟨y,p1,p4,p5⟩
 ·obtain⟨u,p1,p2,p3,p4,p5⟩:=hblk b k q1;obtain⟨u',p1',p2',p3',p4',p5'⟩:=hblk b' k' q2;rw[q3]at p1;cases p1;rw[q4]at p1';cases p1';have:=hmx.apart _ _ _ _ _ _ n p3 p3' p2 p2' q5 q6;have:=DY hfin.nd (gR q1) (gR q2) this;exact cI Prod.fst this
 ·have hd:=(hfin.p8 _ (gR hb')).1;simp only[bF,pG,bN,dO]at hd;rcases hd with⟨_,hd⟩|⟨hd1,hd2⟩
  ·left;intro h;rw[h]at hd;cases hd
  ·right;obtain⟨c,hc⟩:=oJ.1 hd2;have:∀{g:List (Nat×Nat)},fP g b=some c->(b,c)∈g:=by
    intro g;induction g with
    |nil=>intro h;cases h
    |cons q g ih=>
     obtain⟨a1,a2⟩:=q;intro h;simp only[fP]at h;split at h
     ·rename_i e;cases h;subst e;simp
     ·simp[ih h]
   exact hfin.g _ (this hc)
 ·obtain⟨b,k,y,q1,q2,q3⟩:=ho;obtain⟨u,p1,p2,p3,p4,p5⟩:=hblk b k q1;rw[q2]at p1;cases p1;have h9:=hr.eM n ⟨_,_,y,p3,p2,q3⟩;rw[hbor]at h9;exact h9
def vQ (G:(Nat->Prop)->World->Prop):Prop:=∀(I I':Nat->Prop) (w w':World),G I w->(∀n,I n->w'.heap[n]? =w.heap[n]?)->(∀n,I n->I' n)->G I' w'
def gV (G:(Nat->Prop)->World->Prop)(P:Program)(f:FuncId)(args:List AV)(mr m:List (Nat×aN))(res:AV)(m':List (Nat×aN)):Prop:=
 GF G .returned P f args mr m res m'
abbrev JG (G:(Nat->Prop)->World->Prop):Names->(Nat->Prop)->World->Prop:=λ_ I w=>G I w
theorem gV.rZ {G:(Nat->Prop)->World->Prop}(hGk:vQ G){P:Program}{f:FuncId}{fn:Func}{c:Code}{args:List AV}{mr m:List (Nat×aN)}{res:AV}{m':List (Nat×aN)}(hf:P.funcs[f]? =some fn)(hb:fn.body=some c)(hm:P.follows .mixedOrders=true)(hn:args.length<=fn.ntmps)
  (h:CI none 0 (JG G) P fn.ntmps (oO P fn (mr++m) res (mr++m')) [.code c] ⟨mP 0 args,(mr++m).map (λp=>(p.1,some p.2)),64⟩):gV G P f args mr m res m':=by
 intro σ I w vs hG hib hl hv hrm hfree;refine(sK (n:=0)).1 ?_;refine callsIn_of_wp (F:=FW none) hf hb trivial ?_ rfl
 let E:Ctx:={P:=P,w0:=w,iQ:=cR σ (aP (mr++m)),I0:=I,nt:=fn.ntmps,s0:=σ}
 have hJ:∀s σ' I' a w',jH E s σ' I' a w'->JG G σ' I' w':=by
  intro s σ' I' a w' hr;refine hGk I I' w w' hG (λn hn=>hr.frame n (hib n hn) ?_) (λn hn=>hr.i0 n hn);rintro⟨b,k,x,h1,h2,h3⟩;obtain⟨x',h4,_,h5⟩:=hrm.aS b k h1;simp_all
 refine oI ((pA hm h E rfl rfl hJ).1 rfl _ w (TQ (E:=E) rfl rfl rfl rfl hn hib hl hv hrm hfree)) (λe a w' hq=>?_);obtain⟨x,⟨σf,If,hr⟩,he,hret⟩:lP E (oO P fn (mr++m) res (mr++m')) e a w':=by
  cases e<;>simpa[bY]using hq
 obtain⟨r,ho,g,hfin⟩:∃r,u1 P fn x=some r/\∃g,qC (bG x.mm) r (mr++m) res (mr++m') g:=by
  cases ho:u1 P fn x with
  |none=>rw[ho]at hret;exact hret.elim
  |some r=>rw[ho]at hret;exact⟨r,rfl,hret⟩
 obtain⟨v,h1,h2⟩:=S0 hr ho;obtain⟨σ',I',hp,hrv⟩:=UX (E:=E) rfl rfl rfl rfl hrm hfree hr hfin h2;rcases he with rfl|rfl
 ·exact⟨hr.kU,v,h1,v,σ',I',rfl,hp,hrv⟩
 ·exact⟨hr.kU,v,h1,v,σ',I',rfl,hp,hrv⟩
abbrev J0 :Names->(Nat->Prop)->World->Prop:=λ_ _ _=>True
theorem Ct.rZ {P:Program}{f:FuncId}{fn:Func}{c:Code}{args:List AV}{mr m:List (Nat×aN)}{res:AV}{m':List (Nat×aN)}(hf:P.funcs[f]? =some fn)(hb:fn.body=some c)(hm:P.follows .mixedOrders=true)(hn:args.length<=fn.ntmps)
  (h:CI none 0 J0 P fn.ntmps (oO P fn (mr++m) res (mr++m')) [.code c] ⟨mP 0 args,(mr++m).map (λp=>(p.1,some p.2)),64⟩):Ct P f args mr m res m':=
 λσ I w vs=>gV.rZ (G:=λ_ _=>True) (λ_ _ _ _ _ _ _=>trivial) hf hb hm hn h σ I w vs trivial
end Go.AI
