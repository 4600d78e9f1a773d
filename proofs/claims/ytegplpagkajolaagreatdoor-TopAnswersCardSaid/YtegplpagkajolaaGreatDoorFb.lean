/-
  A FRAMEWORK OF MY OWN (2): the other operations, an evaluator over abstract states, contracts, calls.
-/
import Derived.Test.YtegplpagkajolaaGreatDoorFa
set_option linter.unusedSimpArgs false
set_option linter.unusedVariables false
set_option maxRecDepth 100000
set_option maxHeartbeats 8000000
namespace Go.AI
open Classical
def TD :TypeDesc->Bool
 |.int _=>true
 |.bool=>true
 |.string=>true
 |_=>false
def RS (P:Program)(T:TypeId):Bool:=
 match P.underlying T with
 |some (.struct fs)=>fs.toList.all fun f=>match P.underlying f.type with
  |some d=>TD d&&decide (f.offset<dC P T)
  |none=>false
 |some d=>TD d
 |none=>false
theorem zbF {P:Program}{w:World}{t:TypeId}{d:TypeDesc}(h:P.underlying t=some d)(hb:TD d=true){xs:List Value}{off:Nat}(hs:off<xs.length):(part t xs.toArray off).run P w=.ok xs[off] w:=by
 have hg:j6 d=false:=by cases d<;>first|rfl|cases hb
 simp[part,F3 h,hg,hs]
theorem run_checkKey {P:Program}{w:World}{T:TypeId}(h:RS P T=true){ka:Bool}{xs:List Value}(hl:xs.length=dC P T)(ha:∀d,P.underlying T=some d->ka=j6 d)(hx:ka=false->∃x,xs=[x])(ho:∀x∈xs,x.oneCell'=true)(empty:Bool):
  (Instr.checkKey empty 10000 T (mk ka xs)).run P w=.ok () w:=by
 obtain⟨m,hm⟩:∃m,10000=m+1+1:=⟨9998,rfl⟩;rw[hm];clear hm;unfold RS at h;have basic:∀(n:Nat) (d:TypeDesc) (t:TypeId) (v:Value),P.underlying t=some d->TD d=true->(Instr.checkKey empty (n+1) t v).run P w=.ok () w:=by
  intro n d t v hu hb;simp only[Instr.checkKey,eC,dV hu,eQ];cases d<;>first| (cases hb;done)|rfl
 split at h
 ·rename_i fs hu;have:=ha _ hu;simp only[j6]at this;subst this;simp only[mk,eA];rw[Instr.checkKey];simp only[eC,dV hu,eQ];rw[<-Array.forIn_toList]
  have key:∀l:List Field,(∀f∈l,f∈fs.toList)->∀b:PUnit,(forIn (m:=Sem) l b fun f _=>do
    if f.name≠ "_" then Instr.checkKey empty (m+1) f.type (←part f.type xs.toArray f.offset)
    pure (ForInStep.yield PUnit.unit)).run P w=.ok PUnit.unit w:=by
   intro l;induction l with
   |nil=>intro _ b;simp
   |cons f l ih=>
    intro hm b;have hf:=eF.1 h f (hm f (by simp));split at hf
    ·rename_i d hd;simp only[bN,cP]at hf;have e1:=zbF (w:=w) hd hf.1 (xs:=xs) (off:=f.offset) (by rw[hl];exact hf.2);have e2:=basic m d f.type (xs[f.offset]'(by rw[hl];exact hf.2)) hd hf.1;simp only[List.forIn_cons,eC];by_cases hn:f.name≠ "_"
     ·simp only[hn,ne_eq,not_false_eq_true,eA,eC,e1,eQ,e2,lI];exact ih (fun g hg=>hm g (by simp[hg])) _
     ·simp only[hn,gY,lI,eQ];exact ih (fun g hg=>hm g (by simp[hg])) _
    ·cases hf
  have:=key fs.toList (fun f hf=>hf) PUnit.unit;simp only[Array.forIn_toList]at this⊢;simp at this⊢;rw[this];rfl
 ·rename_i d hns hu;exact basic (m+1) d T _ hu h
 ·cases h
theorem Qb :∀{ks:List CK} {xs ys:List Value},jN ks xs=true->jN ks ys=true->mL ks xs ys=some (decide (xs=ys))
 |[],[],[],_,_=>rfl
 |k::ks,x::xs,y::ys,h,g=>by
  simp only[jN,bN]at h g;have ih:=Qb h.2 g.2;have hc:zU k x y=some (decide (x=y)):=by
   have h1:=h.1;have g1:=g.1;cases k<;>cases x<;>first| (simp[CK.fits]at h1;done)|skip
   ·rename_i kx nx;cases y<;>first| (simp[CK.fits]at g1;done)|skip
    rename_i ky ny;cases kx<;>first| (simp[CK.fits]at h1;done)|skip
    cases ky<;>first| (simp[CK.fits]at g1;done)|skip
    simp[zU]
   ·cases y<;>first| (simp[CK.fits]at g1;done)|skip
    simp[zU]
   ·cases y<;>first| (simp[CK.fits]at g1;done)|skip
    simp[zU]
  simp only[mL,hc,ih,List.cons.injEq];by_cases e1:x=y<;>by_cases e2:xs=ys<;>simp[e1,e2]
 |[],[],_::_,_,h=>by cases h
 |[],_::_,_,h,_=>by cases h
 |_::_,[],_,h,_=>by cases h
 |_::_,_::_,[],_,h=>by cases h
theorem zbL {P:Program}{w:World}{T:TypeId}{d:TypeDesc}{ks:List CK}(hf:pY P 8 T=some ks)(hu:P.underlying T=some d){xs ys:List Value}(hx:jN ks xs=true)(hy:jN ks ys=true):
  (Op.equal T (mk (j6 d) xs) (mk (j6 d) ys)).run P w=.ok (decide (xs=ys)) w:=
 Ge 8 10000 T ks d hf (by omega) hu xs ys _ (Qb hx hy) w
noncomputable def nH (kc:List Value)(keys:Nat->List Value):Nat->Nat->Option Nat
 |0,_=>none
 |n+1,i=>if kc=keys i then some i else nH kc keys n (i+1)
theorem H8 {kc:List Value}{keys:Nat->List Value}:∀{n i j:Nat},nH kc keys n i=some j->i<=j/\j<i+n/\kc=keys j
 |0,_,_,h=>by cases h
 |n+1,i,j,h=>by
  unfold nH at h;split at h
  ·rename_i e;cases h;exact⟨cM _,by omega,e⟩
  ·have:=H8 h;exact⟨by omega,by omega,this.2.2⟩
theorem VW {kc:List Value}{keys:Nat->List Value}:∀{n i:Nat},nH kc keys n i=none->∀j,i<=j->j<i+n->kc≠keys j
 |0,_,_,j,h1,h2=>by omega
 |n+1,i,h,j,h1,h2=>by
  unfold nH at h;split at h
  ·cases h
  ·rename_i e;by_cases hj:j=i
   ·subst hj;exact e
   ·exact VW h j (by omega) (by omega)
theorem Qe {kind:TypeDesc}{k:CK}(hk:(∃i,kind=.int i/\k=.int)\/(kind=.bool/\k=.bool)\/(kind=.string/\k=.str)){x:Value}(hx:k.fits x=true){keys:Nat->List Value}:∀(es:List MapEntry) (i:Nat),
  (∀(j:Nat) e,es[j]? =some e->∃y,keys (i+j)=[y]/\e.key=y/\k.fits y=true)->Instr.findNow kind x es i=some ((nH [x] keys es.length i).map fun j=>(j,(es.getD (j-i) default).val))
 |[],i,_=>rfl
 |e::es,i,h=>by
  obtain⟨y,h1,h2,h3⟩:=h 0 e rfl;rw[yU]at h1;have hs:Instr.sameNow kind x y=some (decide (x=y)):=by
   rcases hk with⟨ik,rfl,rfl⟩|⟨rfl,rfl⟩|⟨rfl,rfl⟩<;>cases x<;>first| (simp[CK.fits]at hx;done)|skip
   ·rename_i kx nx;cases y<;>first| (simp[CK.fits]at h3;done)|skip
    rename_i ky ny;cases kx<;>first| (simp[CK.fits]at hx;done)|skip
    cases ky<;>first| (simp[CK.fits]at h3;done)|skip
    simp[Instr.sameNow];by_cases e:nx=ny<;>simp[e]
   ·rename_i a;cases y<;>first| (simp[CK.fits]at h3;done)|skip
    rename_i b;simp[Instr.sameNow];cases a<;>cases b<;>rfl
   ·rename_i a;cases y<;>first| (simp[CK.fits]at h3;done)|skip
    rename_i b;have hb:=(beq_toListBytes a b).trans (TB a b);have:(Value.string a=Value.string b)=(a=b):=by simp
    simp only[Instr.sameNow,hb,lS,this]
  have ih:=Qe hk hx (keys:=keys) es (i+1) (fun j e' hj=>by
   obtain⟨y',a,b,c⟩:=h (j+1) e' (by simpa using hj);exact⟨y',by rw[show i+1+j=i+(j+1) by omega];exact a,b,c⟩)
  unfold Instr.findNow;rw[h2,hs];simp only[kE,nH,h1,List.cons.injEq,and_true];by_cases e':x=y
  ·simp[e']
  ·simp only[e',DH,gY,ih];congr 1
   cases hsk:nH [x] keys es.length (i+1)with
   |none=>rfl
   |some j=>
    have:=(H8 hsk).1;simp only[oK,lS,Prod.mk.injEq,true_and];rw[show j-i=(j-(i+1))+1 by omega];simp
theorem Qg {P:Program}{w:World}{T:TypeId}{d:TypeDesc}{ks:List CK}(hf:pY P 8 T=some ks)(hu:P.underlying T=some d){kc:List Value}(hx:jN ks kc=true){keys:Nat->List Value}:∀(es:List MapEntry) (i:Nat),
  (∀(j:Nat) e,es[j]? =some e->e.key=mk (j6 d) (keys (i+j))/\jN ks (keys (i+j))=true)->
  (Instr.findAsking T (mk (j6 d) kc) es i).run P w=.ok ((nH kc keys es.length i).map fun j=>(j,(es.getD (j-i) default).val)) w
 |[],i,_=>rfl
 |e::es,i,h=>by
  obtain⟨h1,h2⟩:=h 0 e rfl;rw[yU]at h1 h2;have ih:=Qg (w:=w) hf hu hx (keys:=keys) es (i+1) (fun j e' hj=>by
   have:=h (j+1) e' (by simpa using hj);rw[show i+1+j=i+(j+1) by omega];exact this)
  unfold Instr.findAsking;simp only[eC,h1,zbL hf hu hx h2,eQ,kE,nH];by_cases e':kc=keys i
  ·simp[e']
  ·simp only[e',DH,oM,gY,ih];congr 1
   cases hsk:nH kc keys es.length (i+1)with
   |none=>rfl
   |some j=>
    have:=(H8 hsk).1;simp only[oK,lS,Prod.mk.injEq,true_and];rw[show j-i=(j-(i+1))+1 by omega];simp
def EV (P:Program)(T:TypeId)(ka:Bool)(ks:List CK):Prop:=
 pY P 8 T=some ks/\RS P T=true/\ks.length=dC P T/\(match P.underlying T with
  |some d=>j6 d=ka/\(ka=false->(match d,ks with|.int _,[.int]=>true|.bool,[.bool]=>true|.string,[.str]=>true|_,_=>false)=true)
  |none=>False)
theorem run_findKey {P:Program}{w:World}{T:TypeId}{ka:Bool}{ks:List CK}(hK:EV P T ka ks){kc:List Value}(hx:jN ks kc=true){keys:Nat->List Value}{es:Array MapEntry}
  (h:∀(j:Nat) e,es[j]? =some e->e.key=mk ka (keys j)/\jN ks (keys j)=true):
  (Instr.findKey T (mk ka kc) es.toList).run P w=.ok ((nH kc keys es.size 0).map fun j=>(j,(es.getD j default).val)) w:=by
 obtain⟨hf,hkt,hl,hd⟩:=hK;split at hd
 case h_2=>exact hd.elim
 rename_i d hu;obtain⟨hg,hone⟩:=hd;have hask:=Qg (w:=w) hf hu hx (keys:=keys) es.toList 0 (fun j e hj=>by rw[BP,hg];exact h j e (by simpa using hj));simp only[hg,KY,KE]at hask;have hask':(Instr.findAsking T (mk ka kc) es.toList).run P w=.ok ((nH kc keys es.size 0).map fun j=>(j,(es.getD j default).val)) w:=by
  rw[hask];congr 2
  funext j
  simp[List.getD,Array.getD];split<;>simp[*]
 unfold Instr.findKey;simp only[eC,dV hu,eQ];cases ka with
 |true=>
  split
  ·rename_i r hr;cases he:es.toList with
   |nil=>
    have hsz:es.size=0:=by rw[<-KY,he];rfl
    rw[he]at hr;simp only[Instr.findNow,lS]at hr;subst hr;simp[hsz,nH]
   |cons e l=>
    rw[he]at hr;unfold Instr.findNow at hr;have:Instr.sameNow d (mk true kc) e.key=none:=by
     cases d<;>first| (simp[j6]at hg;done)|rfl
    rw[this]at hr;cases hr
  ·exact hask'
 |false=>
  have hone:=hone rfl;obtain⟨k,hks,hkk⟩:∃k,ks=[k]/\((∃i,d=.int i/\k=.int)\/(d=.bool/\k=.bool)\/(d=.string/\k=.str)):=by
   split at hone
   ·exact⟨_,rfl,.inl ⟨_,rfl,rfl⟩⟩
   ·exact⟨_,rfl,.inr (.inl ⟨rfl,rfl⟩)⟩
   ·exact⟨_,rfl,.inr (.inr ⟨rfl,rfl⟩)⟩
   ·cases hone
  subst hks;have one:∀ys:List Value,jN [k] ys=true->∃y,ys=[y]/\k.fits y=true:=by
   intro ys hy
   match ys,hy with
   |[y],hy=>exact⟨y,rfl,by simpa[jN]using hy⟩
   |[],hy=>cases hy
   |_::_::_,hy=>simp[jN]at hy
  obtain⟨x,rfl,hx1⟩:=one kc hx;have hn:=Qe hkk hx1 (keys:=keys) es.toList 0 (fun j e hj=>by
   obtain⟨p,q⟩:=h j e (by simpa using hj);obtain⟨y,hy,hy1⟩:=one _ q;exact⟨y,by rw[BP];exact hy,by rw[p,hy];rfl,hy1⟩)
  have:(mk false [x])=x:=rfl;rw[this,hn];simp only[lI,KY,KE];congr 2
  funext j
  simp[List.getD,Array.getD];split<;>simp[*]
def CS :AV->Option (List Value)
 |.d (.v x)=>some [x]
 |.agg cs=>go cs
 |_=>none
where go:List AV->Option (List Value)
 |[]=>some []
 |.d (.v x)::r=>match go r with
  |some l=>some (x::l)
  |none=>none
 |_=>none
def zK :AV->Bool
 |.agg _=>true
 |.d (.agg _)=>true
 |_=>false
theorem RQ {σ:Names}{I:Nat->Prop}{w:World}{x:AV}{v:Value}{kc:List Value}(h:CS x=some kc)(hv:RV σ I w x v):v=mk (zK x) kc:=by
 have go:∀(cs:List AV) (xs:List Value) (kc:List Value),CS.go cs=some kc->xs.length=cs.length->(∀(i:Nat) c x,cs[i]? =some c->xs[i]? =some x->RV σ I w c x)->xs=kc:=by
  intro cs;induction cs with
  |nil=>intro xs kc h hl _;cases h;exact jL hl
  |cons c cs ih=>
   intro xs kc h hl hr;cases xs with
   |nil=>cases hl
   |cons x xs=>
    unfold CS.go at h;split at h
    ·cases‹c::cs=[]›
    ·rename_i y r e;cases e;split at h
     ·rename_i l hl';cases h;rw[ih xs l hl' (by simpa using hl) (fun i c x h1 h2=>hr (i+1) c x (by simpa using h1) (by simpa using h2))];rw[fM (hr 0 _ x rfl rfl)]
     ·cases h
    ·cases h
 unfold CS at h;split at h
 ·cases h;rw[fM hv];rfl
 ·rename_i cs;cases hv with
  |agg hl hr=>rw[go cs _ kc h hl hr];rfl
 ·cases h
def vA (va:Bool)(d:List D):AV:=if va then .agg (d.map .d)else .d (d.headD (.v undef))
def ME (va:Bool)(zero:List D):Option (List D)->AV
 |some d=>vA va d
 |none=>vA va zero
theorem TX {σ:Names}{I:Nat->Prop}{w:World}{va:Bool}{d:List D}{xs:List Value}(hl:d.length=xs.length)(h:∀(j:Nat) c x,d[j]? =some c->xs[j]? =some x->RD I w c x):RV σ I w (vA va d) (mk va xs):=by
 unfold vA mk;cases va with
 |true=>
  refine .agg (by simpa using hl.symm) (fun i c x h1 h2=>?_);simp at h1;obtain⟨y,hy,rfl⟩:=h1;exact .d (h i y x hy h2)
 |false=>
  match d,xs,hl with
  |[],[],_=>exact .d (.v _)
  |c::d,x::xs,_=>exact .d (h 0 c x rfl rfl)
def Q2 (mem:Mem):AV->Option (Option (Bool×List CK×Bool×(List Value->Option (List D)))×List Nat)
 |.d (.v (.map none))=>some (none,[])
 |.d (.mp ka ks va look)=>some (some (ka,ks,va,look),[])
 |.own b=>match mem b with
  |some (.map ka ks va look)=>some (some (ka,ks,va,look),[b])
  |_=>none
 |_=>none
def T1 (I:Nat->Prop)(w:World)(ka:Bool)(ks:List CK)(va:Bool)(look:List Value->Option (List D))(v:Value):Prop:=
 ∃(n clock:Nat) (es:Array MapEntry) (keys vals:Nat->List Value),v=.map (some n)/\w.heap[n]? =some (.map es clock)/\
  (∀(i:Nat) e,es[i]? =some e->e.key=mk ka (keys i)/\e.val=mk va (vals i)/\jN ks (keys i)=true/\∃d,look (keys i)=some d/\d.length=(vals i).length)/\
  (∀(i j:Nat),i<es.size->j<es.size->keys i=keys j->i=j)/\(∀k d,look k=some d->∃i,i<es.size/\keys i=k)/\
  (∀(i:Nat) d (j:Nat) c x,i<es.size->look (keys i)=some d->d[j]? =some c->(vals i)[j]? =some x->RD I w c x)
def Tz (I:Nat->Prop)(w:World)(v:Value):Option (Bool×List CK×Bool×(List Value->Option (List D)))->Prop
 |none=>v=.map none
 |some (ka,ks,va,look)=>T1 I w ka ks va look v
theorem Mk {σ:Names}{I:Nat->Prop}{w:World}{mem mr:Mem}{x:AV}{v:Value}{q}{rd:List Nat}(h:Q2 mem x=some (q,rd))(hv:RV σ I w x v)(hm:RM σ I w mr)(hr:∀b∈rd,∀k,mem b=some k->mr b=some k):Tz I w v q:=by
 unfold Q2 at h;split at h
 ·cases h;exact fM hv
 ·cases h;cases hv with
  |d hv=>
   cases hv with
   |mp keys vals hI hb hk hu hl hv=>exact⟨_,_,_,keys,vals,rfl,hb,hk,hu,hl,hv⟩
 ·rename_i b;split at h
  ·rename_i ka ks va look hb;cases h;obtain⟨y,hy,hrb,_⟩:=hm.bQ b _ (hr b (by simp) _ hb);cases hv with
   |own h' _=>
    rw[hy]at h';cases h';cases hrb with
    |map keys vals hw _ hk hu hl hv=>exact⟨_,_,_,keys,vals,rfl,hw,hk,hu,hl,hv⟩
  ·cases h
 ·cases h
theorem T1.nH {I:Nat->Prop}{w:World}{ka va:Bool}{ks:List CK}{look:List Value->Option (List D)}{es:Array MapEntry}{keys vals:Nat->List Value}
  (hk:∀(i:Nat) e,es[i]? =some e->e.key=mk ka (keys i)/\e.val=mk va (vals i)/\jN ks (keys i)=true/\∃d,look (keys i)=some d/\d.length=(vals i).length)
  (hl:∀k d,look k=some d->∃i,i<es.size/\keys i=k) (kc:List Value):
  (∃i,AI.nH kc keys es.size 0=some i/\i<es.size/\keys i=kc/\∃d,look kc=some d/\d.length=(vals i).length)\/(AI.nH kc keys es.size 0=none/\look kc=none):=by
 cases hs:AI.nH kc keys es.size 0 with
 |some i=>
  have:=H8 hs;have hlt:i<es.size:=by omega
  obtain⟨_,_,_,d,h1,h2⟩:=hk i _ (tV hlt);exact .inl ⟨i,rfl,hlt,this.2.2.symm,d,by rw[this.2.2];exact h1,h2⟩
 |none=>
  refine .inr ⟨rfl,?_⟩;cases hq:look kc with
  |none=>rfl
  |some d=>
   obtain⟨i,hi,he⟩:=hl kc d hq;exact absurd he.symm (VW hs i (by omega) (by omega))
theorem Lt {ka:Bool}{ks:List CK}{kc:List Value}(h:jN ks kc=true):kc.length=ks.length:=by
 induction ks generalizing kc with
 |nil=>cases kc with
  |nil=>rfl
  |cons _ _=>cases h
 |cons k ks ih=>cases kc with
  |nil=>cases h
  |cons x xs=>simp only[jN,bN]at h;simp[ih h.2]
theorem zg4 {ks:List CK}{kc:List Value}(h:jN ks kc=true):∀x∈kc,x.oneCell'=true:=by
 induction ks generalizing kc with
 |nil=>cases kc with
  |nil=>intro x hx;cases hx
  |cons _ _=>cases h
 |cons k ks ih=>cases kc with
  |nil=>cases h
  |cons y ys=>
   simp only[jN,bN]at h;intro x hx;rcases kN.1 hx with rfl|hx
   ·have:=h.1;cases k<;>cases x<;>first|rfl| (simp[CK.fits]at this;done)
   ·exact ih h.2 x hx
theorem PA {P:Program}{w:World}{T:TypeId}{ka:Bool}{ks:List CK}(hK:EV P T ka ks){kc:List Value}(hx:jN ks kc=true)(empty:Bool):(Instr.checkKey empty 10000 T (mk ka kc)).run P w=.ok () w:=by
 obtain⟨hf,hkt,hl,hd⟩:=hK;split at hd
 case h_2=>exact hd.elim
 rename_i d hu;refine run_checkKey hkt (by rw[Lt (ka:=ka) hx,hl]) (fun d' hd'=>?_) (fun h=>?_) (zg4 hx) empty
 ·rw[hu]at hd';cases hd';exact hd.1.symm
 ·have h1:=hd.2 h;have h2:=Lt (ka:=ka) hx;have:ks.length=1:=by
   split at h1<;>first|rfl|cases h1
  rw[this]at h2
  match kc,h2 with
  |[x],_=>exact⟨x,rfl⟩
def Q4 (te:TI)(ka:Bool)(ks:List CK)(mem:Mem)(x key:AV)(ok:Bool):Option (Prop×aP):=
 match Q2 mem x,CS key with
 |some (q,rd),some kc=>
  let zero:=te.zero.map D.v
  match q with
  |none=>if te.za=te.agg/\zK key=ka then some (jN ks kc=true,⟨if ok then .bI [vA te.agg zero,.d (.v (.bool false))]else vA te.agg zero,rd,[]⟩)else none
  |some (ka',ks',va,look)=>if te.za=te.agg/\va=te.agg/\ka'=ka/\ks'=ks/\zK key=ka then
    some (jN ks kc=true,⟨if ok then .bI [ME va zero (look kc),.d (.v (.bool (look kc).isSome))]else ME va zero (look kc),rd,[]⟩)else none
 |_,_=>none
theorem XR {P:Program}{T:TypeId}{ti:TI}(hT:aZ P T=some ti){K E:TypeId}(hk:ti.k=.map K E):P.underlying T=some (.map K E):=by
 obtain⟨i,d,z,hi,hd,hz,rfl⟩:=j7 hT;rw[hd];simp only at hk;cases d<;>simp[jG]at hk;obtain⟨rfl,rfl⟩:=hk;rfl
theorem OC {P:Program}{w:World}{E:TypeId}{te:TI}(hE:aZ P E=some te)(hza:te.za=te.agg):(zeroValue E).run P w=.ok (mk te.agg te.zero) w:=by
 obtain⟨i,d,z,hi,hd,hz,hte⟩:=j7 hE;have h1:te.za=EX z:=by rw[hte]
 have h2:te.zero=z.cells.toList:=by rw[hte]
 have:z=mk te.agg te.zero:=by
  rw[<-hza,h1,h2];cases z<;>simp[EX,mk,Value.cells]
 rw[<-this];simp[zeroValue,typeInfo,hi,hz]
theorem zdT {P:Program}{o:Oper}{T:TypeId}{x key:Operand}{ok:Bool}(ho:o.op=.lookup T x key ok)(tm:Nat->AV)(mem:Mem)(nm:Nat){ti te:TI}{K E:TypeId}(hT:aZ P T=some ti)(hk:ti.k=.map K E)(hE:aZ P E=some te){ka:Bool}{ks:List CK}(hK:EV P K ka ks)
  {sc:Prop} {e:aP} (he:Q4 te ka ks mem (ev tm x) (ev tm key) ok=some (sc,e)) (hsc:sc):bT P o tm (e.mr mem) nm e.res (e.mw mem):=by
 unfold Q4 at he;split at he
 case h_2=>cases he
 rename_i q rd kc hq hkc;have hu:=XR hT hk;have tupR:∀{σ:Names} {I:Nat->Prop} {w:World} {r:AV} {v:Value} {b:Bool},RV σ I w r v->RV σ I w (.bI [r,.d (.v (.bool b))]) (.tuple #[v,.bool b]):=by
  intro σ I w r v b h;refine .bI (xs:=[v,.bool b]) rfl (fun i c y h1 h2=>?_)
  match i,h1,h2 with
  |0,h1,h2=>simp at h1 h2;subst h1;subst h2;exact h
  |1,h1,h2=>simp at h1 h2;subst h1;subst h2;exact .d (.v _)
  |i+2,h1,h2=>simp at h1
 have hz:∀{σ:Names} {I:Nat->Prop} {w:World},RV σ I w (vA te.agg (te.zero.map D.v)) (mk te.agg te.zero):=by
  intro σ I w;refine TX (by simp) (fun j c x h1 h2=>?_);rw[iJ,h2]at h1;cases h1;exact .v _
 simp only at he;split at he
 ·split at he
  ·rename_i hc;cases he;rw[aP.vE];refine bT.pure fun a w σ I h hm=>?_;have hvk:=RQ hkc (dZ (σ:=σ) (I:=I) (w:=w) (tm:=tm) (a:=a) (x:=key) fun s e=>h s (by simp[ho,Op.operands,e]));have hx:=Mk hq (dZ (σ:=σ) (I:=I) (w:=w) (tm:=tm) (a:=a) (x:=x) fun s e=>h s (by simp[ho,Op.operands,e])) hm (fun b hb k hk=>aP.lN hk (.inl hb));simp only[Tz]at hx;rw[hc.2]at hvk;have hck:=PA (w:=w) hK hsc;have hfk:=run_findKey (w:=w) hK hsc (keys:=fun _=>[]) (es:=#[]) (fun j e h=>by simp at h);have hzr:=OC (w:=w) hE hc.1;have hrun:(Instr.lookup T (a.eval x) (a.eval key) ok).run P w=.ok (if ok then .tuple #[mk te.agg te.zero,.bool false]else mk te.agg te.zero) w:=by
    rw[hx,hvk];simp only[Instr.lookup,eC,dV hu,eQ,pure_bind,hck,hfk];simp[nH,hzr]
   refine⟨_,by simp only[execOp,ho,eC,hrun,eQ];rfl,?_⟩;cases ok with
   |true=>exact tupR hz
   |false=>exact hz
  ·cases he
 ·rename_i ka' ks' va look;split at he
  ·rename_i hc;obtain⟨c1,rfl,rfl,rfl,c5⟩:=hc;cases he;rw[aP.vE];refine bT.pure fun a w σ I h hm=>?_;have hvk:=RQ hkc (dZ (σ:=σ) (I:=I) (w:=w) (tm:=tm) (a:=a) (x:=key) fun s e=>h s (by simp[ho,Op.operands,e]));have hx:=Mk hq (dZ (σ:=σ) (I:=I) (w:=w) (tm:=tm) (a:=a) (x:=x) fun s e=>h s (by simp[ho,Op.operands,e])) hm (fun b hb k hk=>aP.lN hk (.inl hb));obtain⟨n,clock,es,keys,vals,hxv,hw,g1,g2,g3,g4⟩:=hx;rw[c5]at hvk;have hck:=fun em=>PA (w:=w) hK hsc em;have hfk:=run_findKey (w:=w) hK hsc (keys:=keys) (es:=es) (fun j e h=>⟨(g1 j e h).1,(g1 j e h).2.2.1⟩);have hzr:=OC (w:=w) hE c1;have hg:(getObj n).run P w=.ok (.map es clock) w:=by simp[getObj,Sem.run,hw]
   rcases T1.nH (I:=I) (w:=w) g1 g3 kc with⟨i,s1,s2,s3,d,s4,s5⟩|⟨s1,s2⟩
   ·have hee:es[i]? =some es[i]:=tV s2;have hval:(es.getD i default).val=mk te.agg (vals i):=by
     rw[show es.getD i default=es[i] by simp[Array.getD,s2]];exact(g1 i _ hee).2.1
    have hrun:(Instr.lookup T (a.eval x) (a.eval key) ok).run P w=.ok (if ok then .tuple #[mk te.agg (vals i),.bool true]else mk te.agg (vals i)) w:=by
     rw[hxv,hvk];simp only[Instr.lookup,eC,dV hu,eQ,hg,lI,hck,hfk,s1,oK,hval]
    refine⟨_,by simp only[execOp,ho,eC,hrun,eQ];rfl,?_⟩;have hres:RV σ I w (vA te.agg d) (mk te.agg (vals i)):=TX s5 (fun j c x h1 h2=>g4 i d j c x s2 (by rw[s3];exact s4) h1 h2);simp only[s4,ME,Option.isSome_some];cases ok with
    |true=>exact tupR hres
    |false=>exact hres
   ·have hrun:(Instr.lookup T (a.eval x) (a.eval key) ok).run P w=.ok (if ok then .tuple #[mk te.agg te.zero,.bool false]else mk te.agg te.zero) w:=by
     rw[hxv,hvk];simp only[Instr.lookup,eC,dV hu,eQ,hg,lI,hck,hfk,s1,Option.map_none,hzr]
    refine⟨_,by simp only[execOp,ho,eC,hrun,eQ];rfl,?_⟩;simp only[s2,ME,Option.isSome_none];cases ok with
    |true=>exact tupR hz
    |false=>exact hz
  ·cases he
noncomputable def pC (look:List Value->Option (List D))(kc:List Value)(d:List D):List Value->Option (List D):=fun k=>if k=kc then some d else look k
noncomputable def K4 (te:TI)(ka:Bool)(ks:List CK)(mem:Mem)(m key x:AV):Option (Prop×aP):=
 match m,CS key,(cellsOf x).bind qY with
 |.own b,some kc,some ds=>match mem b with
  |some (.map ka' ks' va look)=>if ka'=ka/\ks'=ks/\zK key=ka/\zK x=va then some (jN ks kc=true,⟨.d (.v undef),[],[(b,some (.map ka ks va (pC look kc ds)))]⟩)else none
  |_=>none
 |_,_,_=>none
theorem Fv {k:CK}{x:Value}(h:k.fits x=true)(n:Nat):Instr.sameBits n x x=true:=by
 cases k<;>cases x<;>first| (simp[CK.fits]at h;done)|skip
 ·cases n<;>simp[Instr.sameBits]
 ·cases n<;>simp[Instr.sameBits]
 ·rename_i s;have:(s==s)=true:=by rw[beq_toListBytes,TB];simp
  cases n<;>simp[Instr.sameBits,this]
theorem zbB {ks:List CK}{kc:List Value}(h:jN ks kc=true){ka:Bool}(h1:ka=false->∃k,ks=[k])(n:Nat):Instr.sameBits (n+1) (mk ka kc) (mk ka kc)=true:=by
 have key:∀(ks:List CK) (kc:List Value),jN ks kc=true->(kc.zip kc).all (fun(x,y)=>Instr.sameBits n x y)=true:=by
  intro ks;induction ks with
  |nil=>intro kc h;cases kc with
   |nil=>rfl
   |cons _ _=>cases h
  |cons k ks ih=>intro kc h;cases kc with
   |nil=>cases h
   |cons x xs=>
    simp only[jN,bN]at h;simp only[List.zip_cons_cons,AF,bN];exact⟨Fv h.1 n,ih xs h.2⟩
 cases ka with
 |true=>
  simp only[mk,eA,Instr.sameBits];simpa using key ks kc h
 |false=>
  obtain⟨k,rfl⟩:=h1 rfl
  match kc,h with
  |[x],h=>exact Fv (k:=k) (x:=x) (by simpa[jN]using h) (n+1)
  |[],h=>cases h
  |_::_::_,h=>simp[jN]at h
theorem zfV {P:Program}{T:TypeId}{ka:Bool}{ks:List CK}(h:EV P T ka ks):ka=false->∃k,ks=[k]:=by
 intro hk;obtain⟨_,_,_,hd⟩:=h;split at hd
 case h_2=>exact hd.elim
 have:=hd.2 hk;split at this<;>first|exact⟨_,rfl⟩|cases this
theorem OJ (look:List Value->Option (List D))(kc:List Value)(d:List D):pC look kc d kc=some d:=by simp[pC]
theorem HQ {look:List Value->Option (List D)}{kc k:List Value}{d:List D}(h:k≠kc):pC look kc d k=look k:=by simp[pC,h]
theorem An {σ:Names}{I:Nat->Prop}{w w':World}{ka va:Bool}{ks:List CK}{look:List Value->Option (List D)}{n clock:Nat}{es:Array MapEntry}{keys vals:Nat->List Value}
  (g0:∀(i:Nat) e,es[i]? =some e->e.born<clock) (g1:∀(i:Nat) e,es[i]? =some e->e.key=mk ka (keys i)/\e.val=mk va (vals i)/\jN ks (keys i)=true/\∃d,look (keys i)=some d/\d.length=(vals i).length)
  (g2:∀(i j:Nat),i<es.size->j<es.size->keys i=keys j->i=j) (g3:∀k d,look k=some d->∃i,i<es.size/\keys i=k)
  (g4:∀(i:Nat) d (j:Nat) c x,i<es.size->look (keys i)=some d->d[j]? =some c->(vals i)[j]? =some x->RD I w' c x)
  {kc:List Value} (hf:jN ks kc=true) {ds:List D} {xs:List Value} (hl:ds.length=xs.length) (hr:∀(j:Nat) c x,ds[j]? =some c->xs[j]? =some x->RD I w' c x):
  (∀i,nH kc keys es.size 0=some i->w'.heap[n]? =some (.map (es.modify i fun e=>{e with key:=mk ka kc,val:=mk va xs}) clock)->RB σ I w' (.map ka ks va (pC look kc ds)) (.map (some n)))/\
  (nH kc keys es.size 0=none->w'.heap[n]? =some (.map (es.push {key:=mk ka kc,val:=mk va xs,born:=clock}) (clock+1))->RB σ I w' (.map ka ks va (pC look kc ds)) (.map (some n))):=by
 constructor
 ·intro i hs hw;obtain⟨_,hi,hki⟩:=H8 hs;have hi:i<es.size:=by omega
  refine .map keys (fun j=>if j=i then xs else vals j) hw (fun j e hj=>by
   rw[UI]at hj;split at hj
   ·obtain⟨e0,h0,rfl⟩:=qA.1 hj;exact g0 _ e0 h0
   ·exact g0 j e hj) (fun j e hj=>?_) (fun a b ha hb=>?_) (fun k d hk=>?_) (fun j d q c x hj hlk hc hx=>?_)
  ·rw[UI]at hj;split at hj
   ·rename_i e';subst e';have hee:es[i]? =some es[i]:=tV hi;rw[hee]at hj;simp only[oK,lS]at hj;subst hj;refine⟨by rw[hki],by simp,by rw[<-hki];exact hf,ds,?_,by simp[hl]⟩;rw[<-hki];exact OJ _ _ _
   ·rename_i e';obtain⟨a1,a2,a3,d,a4,a5⟩:=g1 j e hj;have hjlt:=(qX.1 hj).1;have hne:keys j≠kc:=fun h=>e' (g2 i j hi hjlt (by rw[h,hki]))
    refine⟨a1,by simp[tT e',a2],a3,d,?_,by simp[tT e',a5]⟩;rw[HQ hne];exact a4
  ·simp only[Array.size_modify]at ha hb;exact g2 a b ha hb
  ·simp only[Array.size_modify];by_cases hkk:k=kc
   ·subst hkk;exact⟨i,hi,hki.symm⟩
   ·rw[HQ hkk]at hk;exact g3 k d hk
  ·simp only[Array.size_modify]at hj;by_cases e':j=i
   ·subst e';rw[<-hki,OJ]at hlk;cases hlk;simp only[eA]at hx;exact hr q c x hc hx
   ·simp only[e',gY]at hx;have hne:keys j≠kc:=fun h=>e' (g2 j i hj hi (by rw[h,hki]))
    rw[HQ hne]at hlk;exact g4 j d q c x hj hlk hc hx
 ·intro hs hw;have hno:∀j,j<es.size->keys j≠kc:=fun j hj h=>VW hs j (by omega) (by omega) h.symm
  refine .map (fun j=>if j=es.size then kc else keys j) (fun j=>if j=es.size then xs else vals j) hw (fun j e hj=>by
   rw[Array.getElem?_push]at hj;split at hj
   ·cases hj;exact Nat.lt_succ_self _
   ·exact Nat.lt_succ_of_lt (g0 j e hj)) (fun j e hj=>?_) (fun a b ha hb=>?_) (fun k d hk=>?_) (fun j d q c x hj hlk hc hx=>?_)
  ·rw[Array.getElem?_push]at hj;split at hj
   ·rename_i e';cases hj;subst e';simp only[eA];exact⟨trivial,trivial,hf,ds,OJ _ _ _,hl⟩
   ·rename_i e';obtain⟨a1,a2,a3,d,a4,a5⟩:=g1 j e hj;have hjlt:=(qX.1 hj).1;simp only[e',gY];refine⟨a1,a2,a3,d,?_,a5⟩;rw[HQ (hno j hjlt)];exact a4
  ·intro h;simp only[Array.size_push]at ha hb;by_cases ea:a=es.size<;>by_cases eb:b=es.size
   ·omega
   ·simp only[ea,eb,eA,gY]at h;exact absurd h.symm (hno b (by omega))
   ·simp only[ea,eb,eA,gY]at h;exact absurd h (hno a (by omega))
   ·simp only[ea,eb,gY]at h;exact g2 a b (by omega) (by omega) h
  ·simp only[Array.size_push];by_cases hkk:k=kc
   ·exact⟨es.size,by omega,by simp[hkk]⟩
   ·rw[HQ hkk]at hk;obtain⟨i,hi,he⟩:=g3 k d hk;exact⟨i,by omega,by simp[show i≠es.size by omega,he]⟩
  ·simp only[Array.size_push]at hj;by_cases e':j=es.size
   ·simp only[e',eA]at hlk hx;rw[OJ]at hlk;cases hlk;exact hr q c x hc hx
   ·simp only[e',gY]at hlk hx;rw[HQ (hno j (by omega))]at hlk;exact g4 j d q c x (by omega) hlk hc hx
theorem val_mk {σ:Names}{I:Nat->Prop}{w:World}{x:AV}{v:Value}{cs:List AV}(hv:RV σ I w x v)(hc:cellsOf x=some cs):v=mk (zK x) v.cells.toList:=by
 have one:∀{v:Value},v.oneCell'=true->v=mk false v.cells.toList:=fun h=>by rw[Ry h];rfl
 cases hv with
 |agg hl hr=>simp[zK,mk,Value.cells]
 |d h=>
  cases h with
  |agg hl hr=>simp[zK,mk,Value.cells]
  |v y=>
   simp only[cellsOf]at hc;split at hc
   ·exact one ‹_›
   ·cases hc
  |_=>exact one rfl
 |any y=>cases hc
 |bI _ _=>cases hc
 |own _ h1=>exact one h1
 |sl _ hs=>cases hs<;>exact one rfl
 |_=>exact one rfl
theorem Jb {P:Program}{o:Oper}{T:TypeId}{m key x:Operand}(ho:o.op=.mapUpdate T m key x\/o.op=.insert T m key x)(tm:Nat->AV)(mem:Mem)(nm:Nat){ti te:TI}{K E:TypeId}(hT:aZ P T=some ti)(hk:ti.k=.map K E){ka:Bool}{ks:List CK}(hK:EV P K ka ks)
  {sc:Prop} {e:aP} (he:K4 te ka ks mem (ev tm m) (ev tm key) (ev tm x)=some (sc,e)) (hsc:sc):bT P o tm (e.mr mem) nm e.res (e.mw mem):=by
 unfold K4 at he;split at he
 case h_2=>cases he
 rename_i b kc ds hm0 hkc hds;split at he
 case h_2=>cases he
 rename_i ka' ks' va look hb;split at he
 case isFalse=>cases he
 rename_i hc;obtain⟨rfl,rfl,c3,c4⟩:=hc;cases he;have hu:=XR hT hk;refine bT.skip fun a w σ I h1 h h3 _=>?_;have hops:o.op.operands=#[m,key,x]:=by rcases ho with ho|ho<;>rw[ho]<;>rfl
 have hvk:=RQ hkc (dZ (σ:=σ) (I:=I) (w:=w) (tm:=tm) (a:=a) (x:=key) fun s e=>h s (by simp[hops,e]));rw[c3]at hvk;have hvm:=dZ (σ:=σ) (I:=I) (w:=w) (tm:=tm) (a:=a) (x:=m) fun s e=>h s (by simp[hops,e])
 have hvx:=dZ (σ:=σ) (I:=I) (w:=w) (tm:=tm) (a:=a) (x:=x) fun s e=>h s (by simp[hops,e])
 rw[hm0]at hvm;obtain⟨cl,hcl,hds'⟩:=Option.bind_eq_some_iff.1 hds;obtain⟨v1,v2⟩:=J7 hvx hcl;have hcd:=wF hds';subst hcd;have hvmk:a.eval x=mk va (a.eval x).cells.toList:=by rw[<-c4];exact val_mk hvx hcl
 obtain⟨y,hy,hrb,_⟩:=h3.bQ b _ (aP.lN hb (.inr (by simp[wrote])));generalize hev:a.eval m=u at hvm;cases hvm with
 |own h' _=>
  rw[hy]at h';cases h';cases hrb with
  | @map _ _ _ _ n clock es keys vals hw g0 g1 g2 g3 g4=>
    have hck:=PA (w:=w) hK hsc false;have hfk:=run_findKey (w:=w) hK hsc (keys:=keys) (es:=es) (fun j e h=>⟨(g1 j e h).1,(g1 j e h).2.2.1⟩);have hg:(getObj n).run P w=.ok (.map es clock) w:=by simp[getObj,Sem.run,hw]
    have hnI:¬I n:=by
     obtain⟨y',hy',_,hyn⟩:=h3.bQ b _ (aP.lN hb (.inr (by simp[wrote])));rw[hy]at hy';cases hy';exact(hyn n rfl).2
    have fin:∀ob:Obj,(Instr.mapUpdate T (a.eval m) (a.eval key) (a.eval x)).run P w=.ok () {w with heap:=w.heap.setIfInBounds n ob}->
      RB σ I {w with heap:=w.heap.setIfInBounds n ob} (.map ka' ks' va (pC look kc ds)) (.map (some n))->
      ∃w' σ' I',(execOp a.eval o).run P w=.ok .skip w'/\fK σ I w ((aP.mk (.d (.v undef)) [] [(b,some (.map ka' ks' va (pC look kc ds)))]).mr mem) nm σ' I' w' ((aP.mk (.d (.v undef)) [] [(b,some (.map ka' ks' va (pC look kc ds)))]).mw mem):=by
     intro ob hrun hk;refine⟨_,σ,I,by rcases ho with ho|ho<;>simp only[execOp,ho,eC,hrun,eQ]<;>rfl,?_⟩;refine fK.write (w':={w with heap:=w.heap.setIfInBounds n ob}) (b:=b) h1 h3 (aP.lN hb (.inr (by simp[wrote]))) hy rfl (fun j hj=>?_) (by simp) rfl rfl ⟨rfl,cM _⟩ hk HY;simp[uV (tT hj)]
    have hlt:=(qX.1 hw).1;have g4':∀ob:Obj,∀(i:Nat) d (j:Nat) c x,i<es.size->look (keys i)=some d->d[j]? =some c->(vals i)[j]? =some x->RD I {w with heap:=w.heap.setIfInBounds n ob} c x:=fun ob i d j c x q1 q2 q3 q4=>
     (g4 i d j c x q1 q2 q3 q4).mono (fun k hk=>by simp[uV (show n≠k from fun e=>hnI (e▸hk))]) (fun _ h=>h)
    have hr':∀ob:Obj,∀(j:Nat) c x',ds[j]? =some c->(a.eval x).cells.toList[j]? =some x'->RD I {w with heap:=w.heap.setIfInBounds n ob} c x':=fun ob j c x' q1 q2=>by
     have:=v2 j (.d c) x' (by simp[q1]) (by simpa using q2);exact(NX this).mono (fun k hk=>by simp[uV (show n≠k from fun e=>hnI (e▸hk))]) (fun _ h=>h)
    have hll:ds.length=(a.eval x).cells.toList.length:=by simpa using v1.symm
    cases hs:nH kc keys es.size 0 with
    |some i=>
     obtain⟨_,hi,hki⟩:=H8 hs;have hi:i<es.size:=by omega
     have hek:es[i].key=mk ka' kc:=by rw[hki];exact(g1 i _ (tV hi)).1
     refine fin (.map (es.modify i fun e=>{e with key:=mk ka' kc,val:=mk va (a.eval x).cells.toList}) clock) ?_ ((An (w:=w) (n:=n) (clock:=clock) g0 g1 g2 g3 (g4' _) hsc hll (hr' _)).1 i hs (by simp[hlt]));rw[hev,hvk]
     conv=>lhs;rw[hvmk]
     have hsb:=zbB hsc (zfV hK) 9999;simp only[Instr.mapUpdate,eC,dV hu,eQ,hg,hck,hfk,hs,oK,tV hi,sS,hek,Instr.keyThatStays,hsb,eA,lI];simp[setObj,Sem.run,hw]
    |none=>
     refine fin (.map (es.push {key:=mk ka' kc,val:=mk va (a.eval x).cells.toList,born:=clock}) (clock+1)) ?_ ((An (w:=w) (n:=n) (clock:=clock) g0 g1 g2 g3 (g4' _) hsc hll (hr' _)).2 hs (by simp[hlt]));rw[hev,hvk]
     conv=>lhs;rw[hvmk]
     simp only[Instr.mapUpdate,eC,dV hu,eQ,hg,hck,hfk,hs,Option.map_none];simp[setObj,Sem.run,hw]
end Go.AI
namespace Go.AI
def bU (c:UInt8):List D:=[.v (.int .u8 c.toNat)]
def K5 :List D->UInt8
 |[.v (.int .u8 n)]=>UInt8.ofNat n.toNat
 |_=>0
def JE :List D->Bool
 |[.v (.int .u8 _)]=>true
 |_=>false
def Si (es:List (List D)):Prop:=∀e∈es,JE e=true
def B6 (es:List (List D)):List UInt8:=es.map K5
@[simp] theorem unB1_byteC (c:UInt8):K5 (bU c)=c:=by simp[K5,bU]
@[simp] theorem bytesAll_bytesC (l:List UInt8):Si (l.map bU)=True:=eq_true (fun e he=>by obtain⟨c,_,rfl⟩:=eR.1 he;rfl)
@[simp] theorem isB1_byteC (c:UInt8):JE (bU c)=true:=rfl
def M6 (ks kd:K)(eb:Option K)(mem:Mem)(x:AV):Option (Prop×aP):=
 match kd,x with
 |.int k,.d (.v (.int _ n))=>some (True,⟨.d (.v (.int k (k.wrap n))),[],[]⟩)
 |.str,.d (.v (.string s))=>some (True,⟨.d (.v (.string s)),[],[]⟩)
 |.str,x=>match ks,eb,HW 1 mem x with
  |.fL _,some (.int .u8),some (es,rd)=>some (Si es,⟨.d (.v (.string ⟨(B6 es).toArray⟩)),rd,[]⟩)
  |_,_,_=>none
 |_,_=>none
theorem Ob {P:Program}{T:TypeId}{ti:TI}(hT:aZ P T=some ti){k:IntKind}(hk:ti.k=.int k):P.underlying T=some (.int k):=by
 obtain⟨i,d,z,hi,hd,hz,rfl⟩:=j7 hT;rw[hd];simp only at hk;cases d<;>simp[jG]at hk<;>simp[hk]
def nB :List D->Int
 |[.v (.int .u8 n)]=>n
 |_=>0
theorem Vp (e:List D):K5 e=UInt8.ofNat (nB e).toNat:=by
 unfold K5 nB;split<;>simp_all
theorem zfx {w:World}{I:Nat->Prop}{es:List (List D)}{v:Value}{a:Option Addr}{c:Nat}{val:Nat->Nat->Value}(h:o8 I w 1 es v a c val)(hb:∀e∈es,JE e=true):
  mX 1 es.length val=es.map fun e=>Value.int .u8 (nB e):=by
 apply KT;intro q;have hlen:=yG 1 es.length val;rw[Nat.mul_one]at hlen;rcases vX q es.length with hq|hq
 ·have h1:=Pz (sz:=1) (n:=es.length) (val:=val) (i:=q) (j:=0) hq (by omega);rw[Nat.mul_one,yU]at h1;have he:es[q]? =some es[q]:=cI hq;have hb1:=hb _ (lU hq);rw[h1,iJ,he];generalize es[q]=E at hb1 he;unfold JE at hb1;split at hb1
  ·rename_i n;have hr:=h.rd q _ 0 _ he rfl;generalize hv:val q 0=vv at hr;cases hr;rfl
  ·cases hb1
 ·rw[BW (by omega),BW (by simpa using hq)]
theorem Gc {P:Program}{w:World}:∀(l:List (List D)) (s:ByteArray),(forIn (m:=Sem) (l.map fun e=>Value.int .u8 (nB e)) s fun c r=>
  match c with
  |.int .u8 n=>pure (ForInStep.yield (r.push (UInt8.ofNat n.toNat)))
  |_=>do
   stuck (α:=PUnit) "bytesToString: byte expected"
   pure (ForInStep.yield r)).run P w=.ok ⟨s.data++(B6 l).toArray⟩ w
 |[],s=>by simp[B6]
 |e::l,s=>by
  simp only[iU,List.forIn_cons,eC,lI,eQ,Gc l];congr 2
  apply HN;simp[B6,Vp]
theorem run_bytesToString {P:Program}{w:World}{I:Nat->Prop}{es:List (List D)}{v:Value}{a:Option Addr}{c:Nat}{val:Nat->Nat->Value}(h:o8 I w 1 es v a c val)(hb:∀e∈es,JE e=true):
  (Conv.bytesToString v).run P w=.ok (.string ⟨(B6 es).toArray⟩) w:=by
 have hv:=h.v;subst hv;cases a with
 |none=>
  obtain⟨rfl,rfl⟩:=h.QH rfl;simp[Conv.bytesToString,B6];rfl
 |some ad=>
  have hfl:=h.flat rfl;have hlen:=yG 1 es.length val;rw[Nat.mul_one]at hlen;have hload:(loadCells ad es.length).run P w=.ok (mX 1 es.length val).toArray w:=by
   have:=run_loadCells_list (P:=P) w ad _ hfl
   rwa[hlen]at this
  rw[zfx h hb]at hload;have hp:=Gc (P:=P) (w:=w) es ByteArray.empty;simp only[Conv.bytesToString,eC,hload,eQ];rw[<-Array.forIn_toList];simp only[]at hp⊢;refine Eq.trans (dH (fun r=>Result.andThen r fun a w'=>Sem.run P (pure (Value.string a)) w') hp) ?_;simp only[eQ,lI];congr 3
  exact Array.empty_append
theorem zd4 {P:Program}{o:Oper}{S T:TypeId}{x:Operand}(ho:o.op=.convert S T x)(tm:Nat->AV)(mem:Mem)(nm:Nat){ts td:TI}(hS:aZ P S=some ts)(hT:aZ P T=some td){eb:Option K}
  (hE:∀E,ts.k=.fL E->∀k,eb=some k->∃te,aZ P E=some te/\te.k=k/\te.sz=1) {sc:Prop} {e:aP} (he:M6 ts.k td.k eb mem (ev tm x)=some (sc,e)) (hsc:sc):bT P o tm (e.mr mem) nm e.res (e.mw mem):=by
 have hwr:e.wr=[]:=by
  unfold M6 at he
  repeat' split at he
  all_goals first
   | (cases he;done)
   | (cases he;rfl)
 have hmw:e.mw mem=e.mr mem:=by
  obtain⟨r,rd,wr⟩:=e;simp only at hwr;subst hwr;exact aP.vE _ _ _
 rw[hmw];obtain⟨ds,hds⟩:∃d,P.underlying S=some d:=by obtain⟨i,d,z,hi,hd,hz,rfl⟩:=j7 hS;exact⟨d,hd⟩
 refine bT.pure fun a w σ I h hm=>?_;have hv:=dZ (σ:=σ) (I:=I) (w:=w) (tm:=tm) (a:=a) (x:=x) fun s e=>h s (by simp[ho,Op.operands,e])
 have fin:∀v,(convert S T (a.eval x)).run P w=.ok v w->RV σ I w e.res v->∃v,(execOp a.eval o).run P w=.ok (.value v) w/\RV σ I w e.res v:=
  fun v h1 h2=>⟨v,by simp[execOp,ho,h1],h2⟩
 revert he hv fin hm;generalize ev tm x=A;intro he hm hv fin;unfold M6 at he;split at he
 ·rename_i k k' n hk;cases he;have hu:=Ob hT hk;rw[fM hv]at fin;refine fin (.int k (k.wrap n)) ?_ (.d (.v _));simp[convert,dV hds,dV hu,Conv.intToInt]
 ·rename_i s hk;cases he;have hu:=LB hT hk;rw[fM hv]at fin;refine fin (.string s) ?_ (.d (.v _));simp only[convert,eC,dV hds,dV hu,eQ];rfl
 ·rename_i hk _;have hu:=LB hT hk;split at he
  ·rename_i E es rd hks hsrc;cases he;have hus:=uY hS hks;obtain⟨te,hte,hkb,hsz⟩:=hE E hks _ rfl;have hub:=Ob hte hkb;obtain⟨a1,c1,val1,hl⟩:=Dm hsrc (fun e he=>by
    have:=hsc e he;unfold JE at this;split at this
    ·rfl
    ·cases this) hv hm (fun b hb k hk=>aP.lN hk (.inl hb))
   have hrun:=run_bytesToString (P:=P) hl hsc;refine fin _ ?_ (.d (.v _));have hlv:=hl.v;generalize a.eval x=u at hlv hrun;subst hlv;simp only[convert,eC,dV hus,dV hu,dV hub,eQ,hrun]
  ·cases he
 ·cases he
def LM (op:BinOp):AV->AV->Option (Prop×aP)
 |.d (.v (.int k a)),.d (.v (.int _ b))=>match op with
  |.shl=>some (0<=b,⟨.d (.v (.int k (k.wrap (a*2^(min b.toNat k.bits))))),[],[]⟩)
  |.shr=>some (0<=b,⟨.d (.v (.int k (a.fdiv (2^(min b.toNat k.bits))))),[],[]⟩)
  |_=>none
 |_,_=>none
inductive NK where
 |s|p|i|f|m
 deriving DecidableEq
def K.nk :K->Option NK
 |.fL _=>some .s
 |.ptr _=>some .p
 |.iface _=>some .i
 |.func=>some .f
 |.map _ _=>some .m
 |_=>none
def YG :NK->Value->Bool
 |.s,.slice none 0 0=>true
 |.p,.pointer none=>true
 |.i,.nilIface=>true
 |.f,.nilFunc=>true
 |.m,.map none=>true
 |_,_=>false
def QJ (mem:Mem):AV->Option (NK×Option Bool×List Nat)
 |.d (.v (.slice none _ _))=>some (.s,some true,[])
 |.d (.v (.pointer none))=>some (.p,some true,[])
 |.d (.v (.pointer (some _)))=>some (.p,some false,[])
 |.d (.v .nilIface)=>some (.i,some true,[])
 |.d (.v (.iface _ _))=>some (.i,some false,[])
 |.d (.v .nilFunc)=>some (.f,some true,[])
 |.d (.v (.func _ _ _))=>some (.f,some false,[])
 |.d (.v (.map none))=>some (.m,some true,[])
 |.d (.ro _ [])=>some (.s,none,[])
 |.d (.ro _ (_::_))=>some (.s,some false,[])
 |.d (.fn _ _ _)=>some (.f,some false,[])
 |.d (.bM _)=>some (.p,some false,[])
 |.d (.gK _ _)=>some (.i,some false,[])
 |.d (.mp _ _ _ _)=>some (.m,some false,[])
 |.ptr _ _=>some (.p,some false,[])
 |.iF _ _ _ _=>some (.p,some false,[])
 |.fn _ _ _=>some (.f,some false,[])
 |.gK _ _=>some (.i,some false,[])
 |.own b=>match mem b with
  |some (.grow _ [] _)=>some (.s,none,[b])
  |some (.grow _ (_::_) _)=>some (.s,some false,[b])
  |some (.map _ _ _ _)=>some (.m,some false,[b])
  |_=>none
 |_=>none
def QM (op:BinOp)(r:Option Bool):Option AV:=
 match op,r with
 |.eql,some b=>some (.d (.v (.bool b)))
 |.neq,some b=>some (.d (.v (.bool (!b))))
 |.eql,none=>some .ab
 |.neq,none=>some .ab
 |_,_=>none
def QK (op:BinOp)(y:Operand)(k:K)(mem:Mem)(x:AV):Option (Prop×aP):=
 match y with
 |.const c=>match k.nk,QJ mem x with
  |some t,some (t',r,rd)=>if t=t'/\YG t c=true then match QM op r with
    |some v=>some (True,⟨v,rd,[]⟩)
    |none=>none
   else none
  |_,_=>none
 |_=>none
theorem zdF {P:Program}{o:Oper}{op:BinOp}{T T':TypeId}{x y:Operand}(ho:o.op=.binOp op T x y T')(tm:Nat->AV)(mem:Mem)(nm:Nat){sc:Prop}{e:aP}(he:LM op (ev tm x) (ev tm y)=some (sc,e))(hsc:sc):bT P o tm (e.mr mem) nm e.res (e.mw mem):=by
 have hwr:e.wr=[]:=by
  unfold LM at he
  repeat' split at he
  all_goals first
   | (cases he;done)
   | (cases he;rfl)
 have hmw:e.mw mem=e.mr mem:=by
  obtain⟨r,rd,wr⟩:=e;simp only at hwr;subst hwr;exact aP.vE _ _ _
 rw[hmw];refine bT.pure fun a w σ I h hm=>?_;have hx:=dZ (σ:=σ) (I:=I) (w:=w) (tm:=tm) (a:=a) (x:=x) fun s e=>h s (by simp[ho,Op.operands,e])
 have hy:=dZ (σ:=σ) (I:=I) (w:=w) (tm:=tm) (a:=a) (x:=y) fun s e=>h s (by simp[ho,Op.operands,e])
 have fin:∀v,(do eqGuard op T x y (a.eval x) (a.eval y);binOp op T (a.eval x) (a.eval y):Sem Value).run P w=.ok v w->RV σ I w e.res v->
   ∃v,(execOp a.eval o).run P w=.ok (.value v) w/\RV σ I w e.res v:=by
  intro v h1 h2;refine⟨v,?_,h2⟩;simp only[execOp,ho,eC,h1,eQ];rfl
 revert he hx hy fin hm;generalize ev tm x=A;generalize ev tm y=B;intro he hm hx hy fin;unfold LM at he;split at he
 ·rename_i k p k' q;rw[fM hx,fM hy]at fin;split at he
  ·cases he;refine fin _ ?_ (.d (.v _));have hq:¬q<0:=by omega
   simp[eqGuard,binOp,Op.shift,hq]
  ·cases he;refine fin _ ?_ (.d (.v _));have hq:¬q<0:=by omega
   simp[eqGuard,binOp,Op.shift,hq]
  ·cases he
 ·cases he
section
variable {P : Program} {w : World} {T : TypeId}
theorem F2 {x:Operand}{u c:Value}{b:Bool}(hg:∀op,eqGuard op T x (.const c) u c=pure ()\/(eqGuard op T x (.const c) u c).run P w=.ok () w)(he:(Op.equal T u c).run P w=.ok b w)
  (h1:binOp .eql T u c=(do pure (.bool (<-Op.equal T u c)))) (h2:binOp .neq T u c=(do pure (.bool (!(<-Op.equal T u c))))) (op:BinOp) (hop:op=.eql\/op=.neq):
  (do eqGuard op T x (.const c) u c;binOp op T u c:Sem Value).run P w=.ok (.bool (if op=.eql then b else !b)) w:=by
 have hg':∀op,(eqGuard op T x (.const c) u c).run P w=.ok () w:=fun op=>by rcases hg op with h|h;rw[h];rfl;exact h
 rcases hop with rfl|rfl
 ·simp only[eC,hg',eQ,h1,he,lI];rfl
 ·simp only[eC,hg',eQ,h2,he,lI];rfl
theorem zhv {E:TypeId}(hd:P.underlying T=some (.slice E))(d:Nat)(a:Option Addr)(n m:Nat):(Op.equalIn (d+1) T (.slice a n m) (.slice none 0 0)).run P w=.ok a.isNone w:=by
 cases a<;>simp[Op.equalIn,dV hd]
theorem zhw {E:TypeId}(hd:P.underlying T=some (.pointer E))(d:Nat)(a:Option Addr):(Op.equalIn (d+1) T (.pointer a) (.pointer none)).run P w=.ok a.isNone w:=by
 cases a<;>simp[Op.equalIn,dV hd]
theorem zhy {K E:TypeId}(hd:P.underlying T=some (.map K E))(d:Nat)(a:Option Nat):(Op.equalIn (d+1) T (.map a) (.map none)).run P w=.ok a.isNone w:=by
 cases a<;>simp[Op.equalIn,dV hd]
theorem Qm {ps rs:Array TypeId}{v:Bool}(hd:P.underlying T=some (.func ps rs v))(d:Nat):(Op.equalIn (d+1) T .nilFunc .nilFunc).run P w=.ok true w/\∀f a c,(Op.equalIn (d+1) T (.func f a c) .nilFunc).run P w=.ok false w:=by
 constructor
 ·simp[Op.equalIn,dV hd]
 ·intro f a c;simp[Op.equalIn,dV hd]
theorem Ql {ms:Array (String×TypeId)}(hd:P.underlying T=some (.interface ms))(d:Nat):(Op.equalIn (d+1) T .nilIface .nilIface).run P w=.ok true w/\∀t y,(Op.equalIn (d+1) T (.iface t y) .nilIface).run P w=.ok false w:=by
 constructor
 ·simp[Op.equalIn,dV hd]
 ·intro f a;simp[Op.equalIn,dV hd]
end
inductive FC (w:World):NK->Option Bool->Value->Prop
 |s {a:Option Addr} {n m:Nat} {r:Option Bool} (h:r=none\/r=some a.isNone):FC w .s r (.slice a n m)
 |p {a:Option Addr} {r:Option Bool} (h:r=none\/r=some a.isNone):FC w .p r (.pointer a)
 |i0:FC w .i (some true) .nilIface
 |i1 {t:TypeId} {y:Value}:FC w .i (some false) (.iface t y)
 |f0:FC w .f (some true) .nilFunc
 |f1 {f:Fn} {a c:Array Value}:FC w .f (some false) (.func f a c)
 |m {a:Option Nat} {r:Option Bool} (h:r=none\/r=some a.isNone):FC w .m r (.map a)
theorem zeC {σ:Names}{I:Nat->Prop}{w:World}{mem mr:Mem}{x:AV}{t:NK}{r:Option Bool}{rd:List Nat}(h:QJ mem x=some (t,r,rd)){u:Value}(hu:RV σ I w x u)(hm:RM σ I w mr)(hr:∀b∈rd,∀k,mem b=some k->mr b=some k):FC w t r u:=by
 unfold QJ at h;split at h<;>first
  | (cases h;rw[fM hu];first|exact .s (.inr rfl)|exact .p (.inr rfl)|exact .i0|exact .i1|exact .f0|exact .f1|exact .m (.inr rfl))
  |skip
 ·cases h;cases hu with
  |d hu=>cases hu<;>exact .s (.inl rfl)
 ·cases h;cases hu with
  |d hu=>cases hu;exact .s (.inr rfl)
 ·cases h;cases hu with
  |d hu=>cases hu;exact .f1
 ·cases h;cases hu with
  |d hu=>cases hu;exact .p (.inr rfl)
 ·cases h;cases hu with
  |d hu=>cases hu;exact .i1
 ·cases h;cases hu with
  |d hu=>cases hu;exact .m (.inr rfl)
 ·cases h;cases hu;exact .p (.inr rfl)
 ·cases h;cases hu;exact .p (.inr rfl)
 ·cases h;cases hu;exact .f1
 ·cases h;cases hu;exact .i1
 ·rename_i b;split at h
  ·rename_i z T hb;cases h;obtain⟨y,hy,hrb⟩:=hm.grow (hr b (by simp) _ hb);cases hu with
   |own h' _=>
    rw[hy]at h';cases h';rcases hrb with⟨rfl,_⟩|⟨_,rfl,_⟩|⟨_,_,_,rfl,_⟩<;>exact .s (.inl rfl)
  ·rename_i z e es T hb;cases h;obtain⟨y,hy,hrb⟩:=hm.grow (hr b (by simp) _ hb);cases hu with
   |own h' _=>
    rw[hy]at h';cases h';rcases hrb with⟨_,h⟩|⟨_,_,h⟩|⟨_,_,_,rfl,_⟩
    ·cases h
    ·cases h
    ·exact .s (.inr rfl)
  ·rename_i ka ks va look hb;cases h;obtain⟨y,hy,hrb,_⟩:=hm.bQ b _ (hr b (by simp) _ hb);cases hu with
   |own h' _=>
    rw[hy]at h';cases h';cases hrb;exact .m (.inr rfl)
  ·cases h
 ·cases h
theorem QB {P:Program}{o:Oper}{op:BinOp}{T T':TypeId}{x y:Operand}(ho:o.op=.binOp op T x y T')(tm:Nat->AV)(mem:Mem)(nm:Nat){ti:TI}(hT:aZ P T=some ti){sc:Prop}{e:aP}(he:QK op y ti.k mem (ev tm x)=some (sc,e)):bT P o tm (e.mr mem) nm e.res (e.mw mem):=by
 unfold QK at he;split at he
 case h_2=>cases he
 rename_i c;split at he
 case h_2=>cases he
 rename_i t t' r rd hkt hn;split at he
 case isFalse=>cases he
 rename_i hc;obtain⟨rfl,hcn⟩:=hc;split at he
 case h_2=>cases he
 rename_i v hv;cases he;rw[aP.vE];refine bT.pure fun a w σ I h hm=>?_;have hx:=dZ (σ:=σ) (I:=I) (w:=w) (tm:=tm) (a:=a) (x:=x) fun s e=>h s (by simp[ho,Op.operands,e])
 have hnv:=zeC hn hx hm (fun b hb k hk=>aP.lN hk (.inl hb));obtain⟨i,d,z,hi,hd,hz,hti⟩:=j7 hT;have hk:ti.k=jG d:=by rw[hti]
 rw[hk]at hkt;have hop:op=.eql\/op=.neq:=by
  unfold QM at hv;split at hv<;>first|exact .inl rfl|exact .inr rfl|cases hv
 have fin:∀b:Bool,(r=none\/r=some b)->(do eqGuard op T x (.const c) (a.eval x) c;binOp op T (a.eval x) c:Sem Value).run P w=.ok (.bool (if op=.eql then b else !b)) w->
   ∃v',(execOp a.eval o).run P w=.ok (.value v') w/\RV σ I w v v':=by
  intro b hb h1;refine⟨.bool (if op=.eql then b else !b),?_,?_⟩
  ·have ec:a.eval (.const c)=c:=rfl;simp only[execOp,ho,ec,eC];simp only[eC]at h1;rw[h1];rfl
  ·unfold QM at hv;rcases hb with rfl|rfl<;>rcases hop with rfl|rfl<;>simp only[lS]at hv<;>subst hv
   ·exact .ab _
   ·exact .ab _
   ·exact .d (.v _)
   ·exact .d (.v _)
 unfold YG at hcn;generalize hu:a.eval x=u at hnv fin;clear hx hu;cases hnv with
 | @s aa n m r hb=>
   split at hcn<;>first| (cases‹NK.s=_›;done)| (cases hcn;done)|skip
   cases d<;>simp[jG,K.nk]at hkt;exact fin aa.isNone hb (F2 (fun op=>.inr (by cases op<;>simp[eqGuard])) (zhv hd 9999 aa n m) rfl rfl op hop)
 | @p aa r hb=>
   split at hcn<;>first| (cases‹NK.p=_›;done)| (cases hcn;done)|skip
   cases d<;>simp[jG,K.nk]at hkt;exact fin aa.isNone hb (F2 (fun op=>.inr (by cases op<;>simp[eqGuard])) (zhw hd 9999 aa) rfl rfl op hop)
 |i0=>
  split at hcn<;>first| (cases‹NK.i=_›;done)| (cases hcn;done)|skip
  cases d<;>simp[jG,K.nk]at hkt;exact fin true (.inr rfl) (F2 (fun op=>.inr (by cases op<;>simp[eqGuard])) (Ql hd 9999).1 rfl rfl op hop)
 |i1=>
  split at hcn<;>first| (cases‹NK.i=_›;done)| (cases hcn;done)|skip
  cases d<;>simp[jG,K.nk]at hkt;exact fin false (.inr rfl) (F2 (fun op=>.inr (by cases op<;>simp[eqGuard])) ((Ql hd 9999).2 _ _) rfl rfl op hop)
 |f0=>
  split at hcn<;>first| (cases‹NK.f=_›;done)| (cases hcn;done)|skip
  cases d<;>simp[jG,K.nk]at hkt;exact fin true (.inr rfl) (F2 (fun op=>.inr (by cases op<;>simp[eqGuard])) (Qm hd 9999).1 rfl rfl op hop)
 |f1=>
  split at hcn<;>first| (cases‹NK.f=_›;done)| (cases hcn;done)|skip
  cases d<;>simp[jG,K.nk]at hkt;exact fin false (.inr rfl) (F2 (fun op=>.inr (by cases op<;>simp[eqGuard])) ((Qm hd 9999).2 _ _ _) rfl rfl op hop)
 | @m aa r hb=>
   split at hcn<;>first| (cases‹NK.m=_›;done)| (cases hcn;done)|skip
   cases d<;>simp[jG,K.nk]at hkt;exact fin aa.isNone hb (F2 (fun op=>.inr (by cases op<;>simp[eqGuard])) (zhy hd 9999 aa) rfl rfl op hop)
def S1 (k:K):AV->Option (Prop×aP)
 |.d (.v (.slice none 0 0))=>match k with|.fL _=>some (True,⟨.d (.v (.int .i64 0)),[],[]⟩)|_=>none
 |.d (.ro true es)=>match k with|.fL _=>some (True,⟨.d (.v (.int .i64 es.length)),[],[]⟩)|_=>none
 |_=>none
theorem zd6 {P:Program}{o:Oper}{c:Call}(ho:o.op=.call c)(hc:c.callee=.builtin .cap)(tm:Nat->AV)(mem:Mem)(nm:Nat){T:TypeId}(hT:c.argTypes[0]? =some T){ti:TI}(hti:aZ P T=some ti){x:Operand}(hx:c.args[0]? =some x){sc:Prop}{e:aP}
  (he:S1 ti.k (ev tm x)=some (sc,e)):bT P o tm (e.mr mem) nm e.res (e.mw mem):=by
 have hmem:x∈c.args.toList:=by
  rw[<-yX]at hx;exact eH hx
 have hxe:∀a:Act,(c.args.map a.eval)[0]? =some (a.eval x):=fun a=>by simp[hx]
 unfold S1 at he;split at he
 ·rename_i hxx;split at he
  ·rename_i E hk;cases he;rw[aP.vE];refine bT.pure fun a w σ I h hm=>?_;have hv:=dZ (σ:=σ) (I:=I) (w:=w) (tm:=tm) (a:=a) (x:=x) fun s e=>h s (by subst e;simp[ho,Op.operands,Call.operands,hc];simpa using hmem)
   rw[hxx]at hv;have hu:=uY hti hk;exact⟨.int .i64 0,by simp[execOp,ho,resolve,hc,invoke,builtin,Builtin.cap_,hT,hxe,fM hv,dV hu,goInt],.d (.v _)⟩
  ·cases he
 ·rename_i es hxx;split at he
  ·rename_i E hk;cases he;rw[aP.vE];refine bT.pure fun a w σ I h hm=>?_;have hv:=dZ (σ:=σ) (I:=I) (w:=w) (tm:=tm) (a:=a) (x:=x) fun s e=>h s (by subst e;simp[ho,Op.operands,Call.operands,hc];simpa using hmem)
   rw[hxx]at hv;have hu:=uY hti hk;have hxa:=hxe a;have:∃ad n,a.eval x=.slice ad n es.length:=by
    generalize a.eval x=u at hv;cases hv with
    |d hv=>
     cases hv with
     |nil=>exact⟨_,_,rfl⟩
     |emp=>exact⟨_,_,rfl⟩
     |ro _ _ _ _ _ hfc _ _ _=>rw[hfc rfl];exact⟨_,_,rfl⟩
   obtain⟨ad,n,he'⟩:=this;rw[he']at hxa;exact⟨.int .i64 es.length,by simp[execOp,ho,resolve,hc,invoke,builtin,Builtin.cap_,hT,hxa,dV hu,goInt],.d (.v _)⟩
  ·cases he
 ·cases he
def ON (assertsIface:Bool)(T:TypeId)(te:TI)(ok:Bool):AV->Option (Prop×aP)
 |.gK t x=>if assertsIface=false/\te.za=te.agg then
   if t=T then some (True,⟨if ok then .bI [x,.d (.v (.bool true))]else x,[],[]⟩)
   else if ok then some (True,⟨.bI [vA te.agg (te.zero.map D.v),.d (.v (.bool false))],[],[]⟩)else none
  else none
 |.d (.gK t x)=>if assertsIface=false/\te.za=te.agg then
   if t=T then some (True,⟨if ok then .bI [.d x,.d (.v (.bool true))]else .d x,[],[]⟩)
   else if ok then some (True,⟨.bI [vA te.agg (te.zero.map D.v),.d (.v (.bool false))],[],[]⟩)else none
  else none
 |_=>none
theorem zdD {P:Program}{o:Oper}{S T:TypeId}{x:Operand}{ok:Bool}(ho:o.op=.typeAssert x S T ok)(tm:Nat->AV)(mem:Mem)(nm:Nat){te:TI}(hT:aZ P T=some te){ai:Bool}(hai:ai=false->∀b,te.k≠ .iface b){sc:Prop}{e:aP}
  (he:ON ai T te ok (ev tm x)=some (sc,e)):bT P o tm (e.mr mem) nm e.res (e.mw mem):=by
 obtain⟨i,d,z,hi,hd,hz,hti⟩:=j7 hT;have tupR:∀{σ:Names} {I:Nat->Prop} {w:World} {r:AV} {v:Value} {b:Bool},RV σ I w r v->RV σ I w (.bI [r,.d (.v (.bool b))]) (.tuple #[v,.bool b]):=by
  intro σ I w r v b h;refine .bI (xs:=[v,.bool b]) rfl (fun i c y h1 h2=>?_)
  match i,h1,h2 with
  |0,h1,h2=>simp at h1 h2;subst h1;subst h2;exact h
  |1,h1,h2=>simp at h1 h2;subst h1;subst h2;exact .d (.v _)
  |i+2,h1,h2=>simp at h1
 have hz':∀{σ:Names} {I:Nat->Prop} {w:World},RV σ I w (vA te.agg (te.zero.map D.v)) (mk te.agg te.zero):=by
  intro σ I w;refine TX (by simp) (fun j c x h1 h2=>?_);rw[iJ,h2]at h1;cases h1;exact .v _
 have yes:∀{w:World} (t:TypeId) (v:Value),ai=false->t=T->(Instr.typeAssert (.iface t v) S T ok).run P w=.ok (if ok then .tuple #[v,.bool true]else v) w:=by
  intro w t v h1 h2;have hne:=hai h1;rw[hti]at hne;simp only[Instr.typeAssert,eC,dV hd,eQ];cases d<;>first| (exact absurd rfl (hne _))| (cases ok<;>simp[h2])
 have no:∀{w:World} (t:TypeId) (v:Value),ai=false->te.za=te.agg->t≠T->ok=true->(Instr.typeAssert (.iface t v) S T ok).run P w=.ok (.tuple #[mk te.agg te.zero,.bool false]) w:=by
  intro w t v h1 h3 h2 h4;have hne:=hai h1;have hzm:=OC (w:=w) hT h3;rw[hti]at hne;simp only[Instr.typeAssert,eC,dV hd,eQ];cases d<;>first| (exact absurd rfl (hne _))| (simp[h2,h4,hzm])
 have main:∀(t:TypeId) (r:AV),(if ai=false/\te.za=te.agg then
   if t=T then some (True,(⟨if ok then .bI [r,.d (.v (.bool true))]else r,[],[]⟩:aP))
   else if ok then some (True,⟨.bI [vA te.agg (te.zero.map D.v),.d (.v (.bool false))],[],[]⟩)else none
  else none)=some (sc,e)->(∀{a:Act} {w:World} {σ:Names} {I:Nat->Prop},RV σ I w (ev tm x) (a.eval x)->∃v,a.eval x=.iface t v/\RV σ I w r v)->bT P o tm (e.mr mem) nm e.res (e.mw mem):=by
  intro t r he hr;split at he
  ·rename_i hc;split at he
   ·rename_i hte;cases he;rw[aP.vE];refine bT.pure fun a w σ I h hm=>?_;obtain⟨v,hv1,hv2⟩:=hr (dZ (σ:=σ) (I:=I) (w:=w) (tm:=tm) (a:=a) (x:=x) fun s e=>h s (by simp[ho,Op.operands,e]));refine⟨_,by simp only[execOp,ho,hv1,eC,yes t v hc.1 hte,eQ];rfl,?_⟩;cases ok with
    |true=>exact tupR hv2
    |false=>exact hv2
   ·rename_i hte;split at he
    ·rename_i hok;cases he;rw[aP.vE];refine bT.pure fun a w σ I h hm=>?_;obtain⟨v,hv1,hv2⟩:=hr (dZ (σ:=σ) (I:=I) (w:=w) (tm:=tm) (a:=a) (x:=x) fun s e=>h s (by simp[ho,Op.operands,e]));exact⟨_,by simp only[execOp,ho,hv1,eC,no t v hc.1 hc.2 hte hok,eQ];rfl,tupR hz'⟩
    ·cases he
  ·cases he
 unfold ON at he;split at he
 ·rename_i t r hx;refine main t r he (fun{a w σ I} hv=>?_);rw[hx]at hv;generalize a.eval x=u at hv;cases hv with
  |gK h=>exact⟨_,rfl,h⟩
 ·rename_i t r hx;refine main t (.d r) he (fun{a w σ I} hv=>?_);rw[hx]at hv;generalize a.eval x=u at hv;cases hv with
  |d hv=>cases hv with
   |gK h=>exact⟨_,rfl,.d h⟩
 ·cases he
def Q3 (te:TI)(E:TypeId)(nm:Nat):AV->AV->Option (Prop×aP)
 |.d (.v (.int _ n)),.d (.v (.int _ m))=>if te.zero.length=te.sz then
   some (0<=n/\n<=m/\m*te.bytes<=281474976710656/\m<=9223372036854775807,⟨.own nm,[],[(nm,some (.grow te.sz (List.replicate n.toNat (te.zero.map D.v)) E))]⟩)else none
 |_,_=>none
theorem zbI {P:Program}{w:World}{t e:TypeId}{i:TypeInfo}{z:Value}(ht:P.underlying t=some (.slice e))(hi:P.info? e=some i)(hz:i.zero=some z){k1 k2:IntKind}{n m:Int}(c1:0<=n)(c2:n<=m)(c3:m*i.bytes<=281474976710656)(c4:m<=9223372036854775807):
  (Instr.makeSlice t (.int k1 n) (.int k2 m)).run P w=.ok (.slice (some ⟨w.heap.size,0,none⟩) n.toNat m.toNat) (w.alloc (.cells ((Array.range (m.toNat*i.size)).map (z.cells[· %z.cells.size]!)) e (0,0))):=by
 have hwn:IntKind.i64.wrap n=n:=N8 n ⟨by omega,by omega⟩;have hwm:IntKind.i64.wrap m=m:=N8 m ⟨by omega,by omega⟩;have h1:¬m<0:=by omega
 have h2:¬((281474976710656:Int)<i.bytes*m):=by rw[Int.mul_comm];omega
 have h3:¬n<0:=by omega
 have h4:¬m<n:=by omega
 by_cases h0:m.toNat*i.size=0
 ·have e0:(Array.range (m.toNat*i.size)).map (z.cells[· %z.cells.size]!)=#[]:=by rw[h0];simp
  rw[e0];simp[Instr.makeSlice,dV ht,asInt,asIntOf,typeInfo,hi,hwn,hwm,h1,h2,h3,h4,sizeOf,h0,newRow];congr 2
  all_goals first|rfl| (apply HN;simp)
 ·simp[Instr.makeSlice,dV ht,asInt,asIntOf,typeInfo,hi,hwn,hwm,h1,h2,h3,h4,sizeOf,h0,zeroValue,hz,newRow]
theorem zdP {P:Program}{o:Oper}{T:TypeId}{l c:Operand}(ho:o.op=.makeSlice T l c)(tm:Nat->AV)(mem:Mem)(nm:Nat){ti te:TI}{E:TypeId}(hT:aZ P T=some ti)(hk:ti.k=.fL E)(hE:aZ P E=some te)(hone:∀x∈te.zero,x.oneCell'=true){sc:Prop}{e:aP}
  (he:Q3 te E nm (ev tm l) (ev tm c)=some (sc,e)) (hsc:sc):bT P o tm (e.mr mem) nm e.res (e.mw mem):=by
 unfold Q3 at he;split at he
 case h_2=>cases he
 rename_i k1 n k2 m hl hc;split at he
 case isFalse=>cases he
 rename_i hzl;cases he;obtain⟨c1,c2,c3,c4⟩:=hsc;refine bT.val fun a w σ I hib h hm hfree=>?_;have hu:=uY hT hk;obtain⟨i,d,z,hi,hd,hz,hte⟩:=j7 hE;have hvl:=dZ (σ:=σ) (I:=I) (w:=w) (tm:=tm) (a:=a) (x:=l) fun s e=>h s (by simp[ho,Op.operands,e])
 have hvc:=dZ (σ:=σ) (I:=I) (w:=w) (tm:=tm) (a:=a) (x:=c) fun s e=>h s (by simp[ho,Op.operands,e])
 rw[hl]at hvl;rw[hc]at hvc;have el:=fM hvl;have ec:=fM hvc;have hsz:i.size=te.sz:=by rw[hte]
 have hby:i.bytes=te.bytes:=by rw[hte]
 have hzz:te.zero=z.cells.toList:=by rw[hte]
 have hzc:z.cells.size=te.sz:=by rw[<-hzl,hzz];simp
 have hzero:(zeroValue E).run P w=.ok z w:=by simp[zeroValue,typeInfo,hi,hz]
 have hwn:IntKind.i64.wrap n=n:=N8 n ⟨by omega,by omega⟩;have hwm:IntKind.i64.wrap m=m:=N8 m ⟨by omega,by omega⟩;have hrun:=zbI (P:=P) (w:=w) hu hi hz (k1:=k1) (k2:=k2) c1 c2 (by rw[hby];exact c3) c4;rw[hsz]at hrun;have hzt:=UJ m.toNat te.sz z.cells hzc;have hfr:σ nm=none:=hfree nm ⟨cM _,by omega⟩;have hlenA:((Array.range (m.toNat*te.sz)).map (z.cells[· %z.cells.size]!)).size=m.toNat*te.sz:=by simp
 have hcell:∀(i:Nat) e (j:Nat) c,(List.replicate n.toNat (te.zero.map D.v))[i]? =some e->e[j]? =some c->∃x,((Array.range (m.toNat*te.sz)).map (z.cells[· %z.cells.size]!)).toList[i*te.sz+j]? =some x/\RD I w c x/\x.oneCell'=true:=by
  intro i e j c he hcc;have hi':i<n.toNat:=by have:=(cC.1 he).1;simpa using this
  rw[List.getElem?_replicate_of_lt hi']at he;cases he;rw[iJ]at hcc;cases hx:te.zero[j]? with
  |none=>simp[hx]at hcc
  |some x=>
   simp[hx]at hcc;subst hcc;have hj:j<te.sz:=by rw[<-hzl];exact(cC.1 hx).1
   refine⟨x,?_,.v x,hone x (eH hx)⟩;have hlt:i*te.sz+j<m.toNat*te.sz:=by
    have:(i+1)*te.sz<=m.toNat*te.sz:=pB _ (by omega);rw[kM,sT]at this;omega
   have hmod:(i*te.sz+j)%te.sz=j:=by
    rw[vW,Nat.mul_add_mod];exact N4 hj
   have hzx:z.cells[j]? =some x:=by rw[hzz]at hx;simpa using hx
   have hzb:z.cells[j]! =x:=by rw[Array.getElem!_eq_getD,Array.getD_eq_getD_getElem?,hzx];rfl
   rw[yX,Array.getElem?_map];have:(Array.range (m.toNat*te.sz))[i*te.sz+j]? =some (i*te.sz+j):=by simp[hlt]
   rw[this];simp only[oK,hzc,hmod,hzb]
 refine⟨.slice (some ⟨w.heap.size,0,none⟩) n.toNat m.toNat,w.alloc (.cells ((Array.range (m.toNat*te.sz)).map (z.cells[· %z.cells.size]!)) E (0,0)),gP σ nm (.slice (some ⟨w.heap.size,0,none⟩) n.toNat m.toNat),I,?_,?_,.own (by simp[gP]) rfl⟩
 ·simp only[execOp,ho,eC,el,ec,hrun,eQ];rfl
 ·refine fK.swap (k:=.grow te.sz (List.replicate n.toNat (te.zero.map D.v)) E) none hib hm hfr rfl rfl ⟨rfl,cM _⟩ (by simp) (fun j hj _=>xE w _ hj) (fun σ' _=>?_) (fun q hn=>?_) (fun c q hq=>.inl (aP.QS c q hq))
  ·have:=IJ (σ:=σ') (I:=I) (w:=w.alloc (.cells ((Array.range (m.toNat*te.sz)).map (z.cells[· %z.cells.size]!)) E (0,0))) (sz:=te.sz) (es:=List.replicate n.toNat (te.zero.map D.v)) (T:=E) (cap:=m.toNat) (vals:=((Array.range (m.toNat*te.sz)).map (z.cells[· %z.cells.size]!)).toList) (FD w _) (by simp;omega) (by simp[maxLen];omega) (by rw[hlenA];exact cM _)
    (fun e he=>by rw[KU he];simp[hzl]) (fun q u h=>by rw[<-yX];exact h)
    (fun i e j c he hcc=>let⟨x,p1,p2,p3⟩:=hcell i e j c he hcc;⟨x,p1,p2.mono (fun n hn=>xE w _ (hib n hn)) (fun _ h=>h),p3⟩)
   rwa[KK]at this
  ·rcases rO m.toNat with h0|h0
   ·rw[h0]at hn;cases hn
   ·rw[vK h0]at hn;cases hn;exact .inr ⟨cM _,by simp⟩
def SY (te:TI)(mem:Mem):AV->Option (Prop×aP)
 |.sl b z i len=>match mem b with
  |some (.grow z' es T)=>if z=te.sz/\z'=te.sz/\te.zero.length=te.sz then
    some (i+len<=es.length,⟨.d (.v (.tuple #[])),[],[(b,some (.grow te.sz (es.take i++List.replicate len (te.zero.map D.v)++es.drop (i+len)) T))]⟩)else none
  |_=>none
 |_=>none
theorem ziA {res:AV}{b:Nat}{k k':bC}{mem:Mem}(hb:mem b=some k)(e:k'=k):(aP.mk res [] [(b,some k')]).mw mem=(aP.mk res [] [(b,some k')]).mr mem:=by
 subst e;funext c
 rw[aP.IV];show(if c=b then some k' else none)=_;by_cases h:c=b
 ·subst h;rw[aU rfl,aP.lN hb (.inr (by simp[wrote]))]
 ·rw[aH h];simp[aP.mr,wrote,tT h]
theorem zd5 {P:Program}{o:Oper}{c:Call}(ho:o.op=.call c)(hc:c.callee=.builtin .clear)(tm:Nat->AV)(mem:Mem)(nm:Nat){T E:TypeId}(hT:c.argTypes[0]? =some T){ti te:TI}(hti:aZ P T=some ti)(hk:ti.k=.fL E)(hE:aZ P E=some te)
  (hone:∀x∈te.zero,x.oneCell'=true) {x:Operand} (hx:c.args[0]? =some x) {sc:Prop} {e:aP} (he:SY te mem (ev tm x)=some (sc,e)) (hsc:sc):bT P o tm (e.mr mem) nm e.res (e.mw mem):=by
 have hmem:x∈c.args.toList:=by
  rw[<-yX]at hx;exact eH hx
 have hxe:∀a:Act,(c.args.map a.eval)[0]? =some (a.eval x):=fun a=>by simp[hx]
 unfold SY at he;split at he
 case h_2=>cases he
 rename_i b z i len hxx;split at he
 case h_2=>cases he
 rename_i z' es T' hb;split at he
 case isFalse=>cases he
 rename_i hcc;obtain⟨rfl,rfl,hzl⟩:=hcc;cases he;refine bT.val fun a w σ I hib h hm hfree=>?_;have hu:=uY hti hk;obtain⟨inf,d,z,hi,hd,hz,hte⟩:=j7 hE;have hv:=dZ (σ:=σ) (I:=I) (w:=w) (tm:=tm) (a:=a) (x:=x) fun s e=>h s (by subst e;simp[ho,Op.operands,Call.operands,hc];simpa using hmem)
 rw[hxx]at hv;have hsz:inf.size=te.sz:=by rw[hte]
 have hzz:te.zero=z.cells.toList:=by rw[hte]
 have hzc:z.cells.size=te.sz:=by rw[<-hzl,hzz];simp
 have hzero:(zeroValue E).run P w=.ok z w:=by simp[zeroValue,typeInfo,hi,hz]
 obtain⟨y,hy,hrb,hyn⟩:=hm.bQ b _ (aP.lN hb (.inr (by simp[wrote])));have hxa:=hxe a
 have same:len=0->(∃ad cp,a.eval x=.slice ad 0 cp)->∃v w' σ' I',(execOp a.eval o).run P w=.ok (.value v) w'/\fK σ I w ((aP.mk (.d (.v (.tuple #[]))) [] [(b,some (.grow te.sz (es.take i++List.replicate len (te.zero.map D.v)++es.drop (i+len)) T'))]).mr mem) nm σ' I' w'
   ((aP.mk (.d (.v (.tuple #[]))) [] [(b,some (.grow te.sz (es.take i++List.replicate len (te.zero.map D.v)++es.drop (i+len)) T'))]).mw mem)/\RV σ' I' w' (.d (.v (.tuple #[]))) v:=by
  rintro h0 ⟨ad,cp,he⟩;refine⟨.tuple #[],w,σ,I,?_,?_,.d (.v _)⟩
  ·rw[he]at hxa;cases ad<;>simp[execOp,ho,resolve,hc,invoke,builtin,Builtin.clear_,hT,hxa,dV hu]
  ·rw[ziA hb (by subst h0;simp)];exact fK.refl hib hm
 rcases rO len with h0|h0
 ·refine same h0 ?_;generalize a.eval x=u at hv;subst h0;cases hv with
  |sl h hs=>
   cases hs with
   |nil=>exact⟨_,_,rfl⟩
   |none a=>exact⟨_,_,rfl⟩
   |some _ _=>exact⟨_,_,rfl⟩
 have hval:∃n I7 cap c,a.eval x=.slice (some ⟨n,i*te.sz,none⟩) len c/\y=.slice (some ⟨n,0,none⟩) I7 cap/\i+c<=cap/\len<=c:=by
  generalize a.eval x=u at hv;cases hv with
  |sl h hs=>
   rw[hy]at h;cases h;cases hs with
   |nil=>omega
   |none a=>omega
   |some h1 h2=>exact⟨_,_,_,_,rfl,rfl,h1,h2⟩
 obtain⟨n,I7,cap,c',hval,rfl,q1,q2⟩:=hval
 obtain⟨arr,g1,g2,g3,g4,g5,g6,g7⟩:∃arr,w.heap[n]? =some (.cells arr T' (0,0))/\cap*te.sz<=arr.size/\es.length<=cap/\cap<=maxLen/\(∀e∈es,e.length=te.sz)/\
   (∀(i:Nat) e (j:Nat) c,es[i]? =some e->e[j]? =some c->∃x,arr[i*te.sz+j]? =some x/\RD I w c x/\x.oneCell'=true)/\I7=es.length:=by
  cases hrb with
  |emp _=>simp at hsc;omega
  |grow g1 g2 g3 g4 g5 g6=>exact⟨_,g1,g2,g3,g4,g5,g6,rfl⟩
 subst g7
 let vs:List Value:=(Builtin.zeroCells z.cells len).toList
 have hvl:vs.length=len*te.sz:=by simp[vs,Builtin.zeroCells,hzc]
 have hvx:∀q,q<len*te.sz->vs[q]? =some (z.cells[q%te.sz]!):=fun q hq=>by
  simp only[vs,Builtin.zeroCells,hzc,yX,Array.getElem?_map];have:(Array.range (len*te.sz))[q]? =some q:=by simp[hq]
  rw[this];rfl
 have hvone:∀v∈vs,v.oneCell'=true:=by
  intro v hv;obtain⟨q,hq⟩:=DN hv;have hql:q<len*te.sz:=by rw[<-hvl];exact(cC.1 hq).1
  rw[hvx q hql]at hq;cases hq;have hpos:0<te.sz:=by
   rcases rO te.sz with h|h
   ·rw[h]at hql;omega
   ·exact h
  have hlt:q%te.sz<z.cells.size:=by rw[hzc];exact FH _ hpos
  refine hone _ ?_;rw[hzz,FE z.cells _ hlt];simp
 have hb1:(i+len)*te.sz<=cap*te.sz:=pB _ (by omega);rw[kM]at hb1;have hrun:=T4 (P:=P) n (i*te.sz) T' vs 0 arr w g1 (by rw[hvl];omega) hvone;simp only[yU]at hrun;rw[hvl]at hrun;have hcap:0<cap:=by omega
 have hbn:AI.hb (Value.slice (some ⟨n,0,none⟩) es.length cap)=some n:=vK hcap;have hnI:¬I n:=(hyn n hbn).2
 let arr':Array Value:=(arr.toList.take (i*te.sz)++vs++arr.toList.drop (i*te.sz+len*te.sz)).toArray
 refine⟨.tuple #[],w.setRow n arr',σ,I,?_,?_,.d (.v _)⟩
 ·rw[hval]at hxa;have hne:len≠0:=by omega
  obtain⟨l,rfl⟩:∃l,len=l+1:=⟨len-1,by omega⟩;simp[execOp,ho,resolve,hc,invoke,builtin,Builtin.clear_,hT,hxa,dV hu,hzero];simp only[vs]at hrun;rw[hrun];rfl
 ·refine fK.write (b:=b) (k':=.grow te.sz (es.take i++List.replicate len (te.zero.map D.v)++es.drop (i+len)) T') hib hm (aP.lN hb (.inr (by simp[wrote]))) hy hbn (fun j hj=>DF w n j _ hj) (by simp) rfl rfl ⟨rfl,cM _⟩ ?_ HY;have hel:(es.take i++List.replicate len (te.zero.map D.v)++es.drop (i+len)).length=es.length:=by simp;omega
  have hal:arr'.size=arr.size:=by simp[arr',hvl];omega
  have key:=RB.grow (σ:=σ) (I:=I) (w:=w.setRow n arr') (sz:=te.sz) (es:=es.take i++List.replicate len (te.zero.map D.v)++es.drop (i+len)) (T:=T') (n:=n) (cap:=cap) (setRow_heap w n arr _ T' _ g1) (by rw[hal];exact g2) (by rw[hel];exact g3) g4 ?_ ?_
  ·rw[hel]at key;exact key
  ·intro e he;simp only[dN]at he;rcases he with(he|he)|he
   ·exact g5 e (rP he)
   ·rw[KU he];simp[hzl]
   ·exact g5 e (BT he)
  ·intro k e j c k1 k2;have mono:∀{c y},RD I w c y->RD I (w.setRow n arr') c y:=fun h=>h.mono (fun j hj=>DF w n j _ (fun e=>hnI (e▸hj))) (fun _ h=>h);have htk:(es.take i).length=i:=by simp;omega
   have hj:j<te.sz:=by
    have h1:=(cC.1 k2).1;have:e.length=te.sz:=by
     have he:=eH k1;simp only[dN]at he;rcases he with(he|he)|he
     ·exact g5 e (rP he)
     ·rw[KU he];simp[hzl]
     ·exact g5 e (BT he)
    omega
   have hsl:(arr.toList.take (i*te.sz)).length=i*te.sz:=by simp;omega
   by_cases h1:k<i
   ·rw[AE,jY (by omega),KO h1]at k1;obtain⟨x,p1,p2,p3⟩:=g6 k e j c k1 k2;refine⟨x,?_,mono p2,p3⟩;have:(k+1)*te.sz<=i*te.sz:=pB _ h1;rw[kM,sT]at this;rw[KN,AE,jY (by omega),KO (by omega)];simpa using p1
   ·by_cases h2:k<i+len
    ·rw[jY (by simp;omega),nL (by omega),htk,List.getElem?_replicate_of_lt (by omega)]at k1;cases k1;rw[iJ]at k2;cases hx':te.zero[j]? with
     |none=>simp[hx']at k2
     |some x'=>
      simp[hx']at k2;subst k2;refine⟨x',?_,.v x',hone x' (eH hx')⟩;have e1:k*te.sz+j=i*te.sz+((k-i)*te.sz+j):=by
       have:k*te.sz=i*te.sz+(k-i)*te.sz:=by rw[<-kM];congr 1;omega
       omega
      have e2:(k-i)*te.sz+j<len*te.sz:=by
       have:(k-i+1)*te.sz<=len*te.sz:=pB _ (by omega);rw[kM,sT]at this;omega
      rw[KN,e1,jY (by rw[dQ,hsl,hvl];omega),nL (by omega),hsl,Nat.add_sub_cancel_left,hvx _ e2];have hmod:((k-i)*te.sz+j)%te.sz=j:=by
       rw[vW,Nat.mul_add_mod];exact N4 hj
      have hzx:z.cells[j]? =some x':=by rw[hzz]at hx';simpa using hx'
      rw[hmod,Array.getElem!_eq_getD,Array.getD_eq_getD_getElem?,hzx];rfl
    ·have hrl:(es.take i++List.replicate len (te.zero.map D.v)).length=i+len:=by rw[dQ,htk];simp
     rw[nL (by omega),hrl,rQ,show i+len+(k-(i+len))=k by omega]at k1;obtain⟨x,p1,p2,p3⟩:=g6 k e j c k1 k2;refine⟨x,?_,mono p2,p3⟩;have hal2:(arr.toList.take (i*te.sz)++vs).length=i*te.sz+len*te.sz:=by rw[dQ,hsl,hvl]
     have:(i+len)*te.sz<=k*te.sz:=pB _ (by omega);rw[kM]at this;rw[KN,nL (by omega),hal2,rQ,show i*te.sz+len*te.sz+(k*te.sz+j-(i*te.sz+len*te.sz))=k*te.sz+j by omega];simpa using p1
def TG (te:TI)(E:TypeId)(nm:Nat):AV->AV->Option (Prop×aP)
 |.d (.v (.slice none 0 0)),.d (.v (.int .i64 n))=>if te.zero.length=te.sz/\0<te.sz then
   some (0<n/\n*te.bytes<=140737488355328/\n<=140737488355328,⟨.own nm,[],[(nm,some (.grow te.sz (List.replicate n.toNat (te.zero.map D.v)) E))]⟩)else none
 |_,_=>none
theorem zbQ {P:Program}{w:World}{t u ty e:TypeId}{i:TypeInfo}{z:Value}(ht:P.underlying t=some (.slice e))(hu:P.underlying u=some (.int .i64))(hi:P.info? e=some i)(hz:i.zero=some z)(hs:0<i.size)
  {n:Int} (h0:0<n) (h1:n<=140737488355328) (hfit:Builtin.nextslicecap n.toNat 0*i.bytes<=281474976710656) (hb:n*i.bytes<=140737488355328):
  (Builtin.append_ #[t,u] ty #[.slice none 0 0,.int .i64 n]).run P w=
    .ok (.slice (some ⟨w.heap.size,0,none⟩) n.toNat (grownCap w n.toNat 0 e)) (w.drew.alloc (.cells (Builtin.zeroCells z.cells n.toNat++Builtin.zeroCells z.cells (grownCap w n.toNat 0 e-n.toNat)) e)):=by
 have hw:IntKind.i64.wrap n=n:=N8 n ⟨by omega,by omega⟩;have c1:¬n<0:=by omega
 have c2:¬(281474976710656<n*(i.bytes:Int)):=by omega
 have c3:¬(9223372036854775807<n):=by omega
 have c4:¬(281474976710656<Builtin.nextslicecap n.toNat 0*i.bytes):=by omega
 have c5:n.toNat≠0:=by omega
 have c6:i.size≠0:=by omega
 have c7:((n.toNat:Nat):Int)=n:=by omega
 have c8:¬n<=0:=by omega
 have c9:¬(n=0):=by omega
 have c10:¬(9223372036854775807<max n 0):=by omega
 have c11:n.toNat*i.size≠0:=Nat.mul_ne_zero c5 c6;simp[Builtin.append_,dV ht,dV hu,sizeOf,typeInfo,zeroValue,hi,hz,asInt,asIntOf,hw,c1,c2,c3,c4,c5,c6,c7,c8,c9,c10,c11,Question.forced,Builtin.firstCells,newRow,grownCap]
theorem zf5 {P:Program}{T:TypeId}{ti:TI}(hT:aZ P T=some ti)(hk:ti.k=.int .i64):P.underlying T=some (.int .i64):=by
 obtain⟨i,d,z,hi,hd,hz,rfl⟩:=j7 hT;rw[hd];simp only at hk;cases d<;>simp[jG]at hk<;>simp[hk]
theorem zee {P:Program}{o:Oper}{c:Call}(ho:o.op=.call c)(hc:c.callee=.builtin .append)(tm:Nat->AV)(mem:Mem)(nm:Nat){T U:TypeId}(hT:c.argTypes=#[T,U]){x y:Operand}(hx:c.args=#[x,y])
  {ti te tu:TI} {E:TypeId} (hti:aZ P T=some ti) (hk:ti.k=.fL E) (hE:aZ P E=some te) (htu:aZ P U=some tu) (hku:tu.k=.int .i64) (hone:∀x∈te.zero,x.oneCell'=true) {sc:Prop} {e:aP}
  (he:TG te E nm (ev tm x) (ev tm y)=some (sc,e)) (hsc:sc):bT P o tm (e.mr mem) nm e.res (e.mw mem):=by
 unfold TG at he;split at he
 case h_2=>cases he
 rename_i n hl hn;split at he
 case isFalse=>cases he
 rename_i hzl;obtain⟨hzl,hpos⟩:=hzl;cases he;obtain⟨s1,s2,s3⟩:=hsc;refine bT.val fun a w σ I hib h hm hfree=>?_;have hu:=uY hti hk;have huu:=zf5 htu hku;obtain⟨i,d,z,hi,hd,hz,hte⟩:=j7 hE;have hvl:=dZ (σ:=σ) (I:=I) (w:=w) (tm:=tm) (a:=a) (x:=x) fun s e=>h s (by subst e;simp[ho,Op.operands,Call.operands,hc,hx])
 have hvc:=dZ (σ:=σ) (I:=I) (w:=w) (tm:=tm) (a:=a) (x:=y) fun s e=>h s (by subst e;simp[ho,Op.operands,Call.operands,hc,hx])
 rw[hl]at hvl;rw[hn]at hvc;have el:=fM hvl;have ec:=fM hvc;have hsz:i.size=te.sz:=by rw[hte]
 have hby:i.bytes=te.bytes:=by rw[hte]
 have hzz:te.zero=z.cells.toList:=by rw[hte]
 have hzc:z.cells.size=te.sz:=by rw[<-hzl,hzz];simp
 have hnn:((n.toNat:Nat):Int)=n:=by omega
 have hb':n.toNat*i.bytes<=140737488355328:=by
  have:((n.toNat*i.bytes:Nat):Int)<=140737488355328:=by rw[Int.natCast_mul,hnn,hby];exact s2
  omega
 have hrun:=zbQ (P:=P) (w:=w) (t:=T) (u:=U) (ty:=o.type) hu huu hi hz (by omega) s1 s3 (growslice_fits (by omega) hb') (by rw[hby];exact s2);have hfr:σ nm=none:=hfree nm ⟨cM _,by omega⟩;have hge:=grownCap_ge w n.toNat 0 E;have hmx:grownCap w n.toNat 0 E<=maxLen:=grownCap_le_maxLen w _ _ _ (by simp[maxLen];omega)
 let arr:Array Value:=Builtin.zeroCells z.cells n.toNat++Builtin.zeroCells z.cells (grownCap w n.toNat 0 E-n.toNat)
 have hal:arr.size=grownCap w n.toNat 0 E*te.sz:=by
  simp only[arr,Array.size_append,size_zeroCells,hzc];rw[<-kM];congr 1;omega
 have hcell:∀(i:Nat) e (j:Nat) c,(List.replicate n.toNat (te.zero.map D.v))[i]? =some e->e[j]? =some c->∃x,(Builtin.zeroCells z.cells n.toNat).toList[i*te.sz+j]? =some x/\RD I w c x/\x.oneCell'=true:=by
  intro i e j c he hcc;have hi':i<n.toNat:=by have:=(cC.1 he).1;simpa using this
  rw[List.getElem?_replicate_of_lt hi']at he;cases he;rw[iJ]at hcc;cases hx:te.zero[j]? with
  |none=>simp[hx]at hcc
  |some x=>
   simp[hx]at hcc;subst hcc;have hj:j<te.sz:=by rw[<-hzl];exact(cC.1 hx).1
   refine⟨x,?_,.v x,hone x (eH hx)⟩;have hlt:i*te.sz+j<n.toNat*te.sz:=by
    have:(i+1)*te.sz<=n.toNat*te.sz:=pB _ (by omega);rw[kM,sT]at this;omega
   have hmod:(i*te.sz+j)%te.sz=j:=by
    rw[vW,Nat.mul_add_mod];exact N4 hj
   have hzx:z.cells[j]? =some x:=by rw[hzz]at hx;simpa using hx
   have hzb:z.cells[j]! =x:=by rw[Array.getElem!_eq_getD,Array.getD_eq_getD_getElem?,hzx];rfl
   simp only[Builtin.zeroCells,hzc];rw[yX,Array.getElem?_map];have:(Array.range (n.toNat*te.sz))[i*te.sz+j]? =some (i*te.sz+j):=by simp[hlt]
   rw[this];simp only[oK,hmod,hzb]
 refine⟨.slice (some ⟨w.heap.size,0,none⟩) n.toNat (grownCap w n.toNat 0 E),w.drew.alloc (.cells arr E (0,0)),gP σ nm (.slice (some ⟨w.heap.size,0,none⟩) n.toNat (grownCap w n.toNat 0 E)),I,?_,?_,.own (by simp[gP]) rfl⟩
 ·simp[execOp,ho,resolve,hc,invoke,builtin,hT,hx,el,ec,hrun];rfl
 ·refine fK.swap (k:=.grow te.sz (List.replicate n.toNat (te.zero.map D.v)) E) none hib hm hfr rfl rfl ⟨rfl,Nat.le_succ _⟩ (by simp) (fun j hj _=>xE w.drew _ hj) (fun σ' _=>?_) (fun q hn=>?_) (fun c q hq=>.inl (aP.QS c q hq))
  ·have:=IJ (σ:=σ') (I:=I) (w:=w.drew.alloc (.cells arr E (0,0))) (sz:=te.sz) (es:=List.replicate n.toNat (te.zero.map D.v)) (T:=E) (cap:=grownCap w n.toNat 0 E) (vals:=(Builtin.zeroCells z.cells n.toNat).toList) (FD w.drew _) (by simp;omega) hmx (by rw[hal];exact cM _)
    (fun e he=>by rw[KU he];simp[hzl]) (fun q u h=>by
      have hlt:=(cC.1 h).1;rw[Aw (by simpa using hlt)];simpa using h)
    (fun i e j c he hcc=>let⟨x,p1,p2,p3⟩:=hcell i e j c he hcc;⟨x,p1,RD.mono (w:=w) (w':=w.drew.alloc (.cells arr E (0,0))) (fun n hn=>xE w.drew _ (hib n hn)) (fun _ h=>h) p2,p3⟩)
   rwa[KK]at this
  ·rw[vK (by omega)]at hn;cases hn;exact .inr ⟨cM _,by simp⟩
def fO (kp:Nat->Bool)(mm:Nat->Option bC):Nat->AV->AV
 |0,a=>a
 |n+1,a=>match a with
  |.own b=>if kp b then .own b else match mm b with
   |some (.grow _ es _)=>.d (.ro false es)
   |some (.map ka ks va look)=>.d (.mp ka ks va look)
   |_=>.own b
  |.sl b sz i len=>if kp b then .sl b sz i len else match mm b with
   |some (.grow z es _)=>if z=sz/\i+len<=es.length then .d (.ro false ((es.drop i).take len))else .sl b sz i len
   |_=>.sl b sz i len
  |.ptr b off=>if kp b then .ptr b off else match mm b with
   |some (.cells cs _)=>match qY (cs.map (fO kp mm n))with
    |some ds=>if(cs.map (fO kp mm n)).all EN=true then .d (.bM (ds.drop off))else .ptr b off
    |none=>.ptr b off
   |_=>.ptr b off
  |.agg cs=>.agg (cs.map (fO kp mm n))
  |.bI cs=>.bI (cs.map (fO kp mm n))
  |.fn f x y=>match qY (x.map (fO kp mm n)),qY (y.map (fO kp mm n))with
   |some x',some y'=>.d (.fn f x' y')
   |_,_=>.fn f (x.map (fO kp mm n)) (y.map (fO kp mm n))
  |.gK t x=>match DU (fO kp mm n x)with
   |some d=>.d (.gK t d)
   |none=>.gK t (fO kp mm n x)
  |a=>a
section
variable {kp : Nat -> Bool} {mm : Nat -> Option bC} {n : Nat}
@[simp] theorem prA_d (x:D):fO kp mm (n+1) (.d x)=.d x:=rfl
@[simp] theorem prA_any :fO kp mm (n+1) .any=.any:=rfl
@[simp] theorem prA_ab :fO kp mm (n+1) .ab=.ab:=rfl
@[simp] theorem prA_prow (b sz i off:Nat):fO kp mm (n+1) (.iF b sz i off)=.iF b sz i off:=rfl
@[simp] theorem zcY (b:Nat):fO kp mm (n+1) (.own b)=if kp b then .own b else match mm b with
    |some (.grow _ es _)=>.d (.ro false es)
    |some (.map ka ks va look)=>.d (.mp ka ks va look)
    |_=>.own b:=rfl
@[simp] theorem zcW (b sz i len:Nat):fO kp mm (n+1) (.sl b sz i len)=if kp b then .sl b sz i len else match mm b with
    |some (.grow z es _)=>if z=sz/\i+len<=es.length then .d (.ro false ((es.drop i).take len))else .sl b sz i len
    |_=>.sl b sz i len:=rfl
@[simp] theorem zcX (b off:Nat):fO kp mm (n+1) (.ptr b off)=if kp b then .ptr b off else match mm b with
    |some (.cells cs _)=>match qY (cs.map (fO kp mm n))with
     |some ds=>if(cs.map (fO kp mm n)).all EN=true then .d (.bM (ds.drop off))else .ptr b off
     |none=>.ptr b off
    |_=>.ptr b off:=rfl
@[simp] theorem zc2 (cs:List AV):fO kp mm (n+1) (.agg cs)=.agg (cs.map (fO kp mm n)):=rfl
@[simp] theorem zcV (cs:List AV):fO kp mm (n+1) (.bI cs)=.bI (cs.map (fO kp mm n)):=rfl
@[simp] theorem zc0 (f:Fn)(x y:List AV):fO kp mm (n+1) (.fn f x y)=match qY (x.map (fO kp mm n)),qY (y.map (fO kp mm n))with
    |some x',some y'=>.d (.fn f x' y')
    |_,_=>.fn f (x.map (fO kp mm n)) (y.map (fO kp mm n)):=rfl
@[simp] theorem zcZ (t:TypeId)(x:AV):fO kp mm (n+1) (.gK t x)=match DU (fO kp mm n x)with
    |some d=>.d (.gK t d)
    |none=>.gK t (fO kp mm n x):=rfl
end
def given (σ:Names)(I:Nat->Prop)(mm:Mem)(kp:Nat->Bool)(n:Nat):Prop:=I n\/∃b,kp b=false/\DC σ mm (some b) n
theorem Wu {x:AV}{d:D}(h:DU x=some d):x=.d d:=by
 unfold DU at h;split at h
 ·cases h
 ·cases h;rfl
 ·cases h
theorem LY {σ:Names}{I:Nat->Prop}{w:World}{mm:Mem}{kp:Nat->Bool}(hm:RM σ I w mm):∀(n:Nat) {a:AV} {v:Value},RV σ I w a v->RV σ (given σ I mm kp) w (fO kp mm n a) v:=by
 have hII:∀n,I n->given σ I mm kp n:=fun n h=>.inl h;have mono:∀{a:AV} {v:Value},RV σ I w a v->RV σ (given σ I mm kp) w a v:=fun h=>h.mono (fun _ _=>rfl) hII (fun _ _ h=>h);have monoD:∀{a:D} {v:Value},RD I w a v->RD (given σ I mm kp) w a v:=fun h=>h.mono (fun _ _=>rfl) hII;intro n;induction n with
 |zero=>intro a v h;exact mono h
 |succ n ih=>
  have aC:∀{cs:List AV} {xs:List Value},(∀(i:Nat) c x,cs[i]? =some c->xs[i]? =some x->RV σ I w c x)->∀(i:Nat) c x,(cs.map (fO kp mm n))[i]? =some c->xs[i]? =some x->RV σ (given σ I mm kp) w c x:=by
   intro cs xs h i c x h1 h2;simp only[iJ]at h1;obtain⟨c',hc',rfl⟩:=qA.1 h1;exact ih (h i c' x hc' h2)
  have lstD:∀{cs:List AV} {ds:List D} {xs:List Value},qY (cs.map (fO kp mm n))=some ds->(∀(i:Nat) c x,cs[i]? =some c->xs[i]? =some x->RV σ I w c x)->∀(i:Nat) c x,ds[i]? =some c->xs[i]? =some x->RD (given σ I mm kp) w c x:=by
   intro cs ds xs hd h i c x h1 h2;have:=aC h i (.d c) x (by rw[wF hd];simp[h1]) h2;exact NX this
  intro a v h;cases h with
  |d h=>exact .d (monoD h)
  |any=>exact .any _
  |ab t=>exact .ab t
  |iF h=>exact .iF h
  | @own b _ hb h1=>
    simp only[fO];split
    ·exact .own hb h1
    ·rename_i hk;have hk:kp b=false:=by simpa using hk
     split
     ·rename_i z es T hbm;obtain⟨x,hx,hrb⟩:=hm.grow hbm;rw[hb]at hx;cases hx;rcases hrb with⟨rfl,rfl⟩|⟨ad,rfl,rfl⟩|⟨m,cap,arr,rfl,g1,g2,g3,g4,g5,g6⟩
      ·exact .d .nil
      ·exact .d .emp
      ·rcases rO cap with h0|h0
       ·subst h0;have:es=[]:=jL (by omega);subst this;exact .d .emp
       ·refine .d (.ro (sz:=z) (fun i j=>arr.getD (i*z+j) undef) (.inr ⟨b,hk,b,_,_,rfl,hbm,hb,vK h0⟩) g5 g3 g4 (fun h=>by cases h) (fun i e j c he hc=>?_) (fun i e j c he hc=>?_) (fun i e j c he hc=>?_))
        ·obtain⟨q,hq,_⟩:=g6 i e j c he hc;rw[A9 g1,BP];simp[hq]
        ·obtain⟨q,hq,hr,_⟩:=g6 i e j c he hc;simpa[hq]using monoD hr
        ·obtain⟨q,hq,_,ho⟩:=g6 i e j c he hc;simpa[hq]using ho
     ·rename_i ka ks va look hbm;obtain⟨x,hx,hrb,_⟩:=hm.bQ b _ hbm;rw[hb]at hx;cases hx;cases hrb with
      |map keys vals hw _ hk' hu hl hv=>exact .d (.mp keys vals (.inr ⟨b,hk,b,_,_,rfl,hbm,hb,rfl⟩) hw hk' hu hl (fun i d j c x a1 a2 a3 a4=>monoD (hv i d j c x a1 a2 a3 a4)))
     ·exact .own hb h1
  | @sl b sz i len y v hb hs=>
    simp only[fO];split
    ·exact .sl hb hs
    ·rename_i hk;have hk:kp b=false:=by simpa using hk
     split
     ·rename_i z es T hbm;split
      ·rename_i hc;obtain⟨rfl,hle⟩:=hc;obtain⟨ad,c,val,hl⟩:=XX hm hbm hle (RV.sl hb hs);cases hs with
       |nil=>
        simp only[List.take_zero];exact .d .nil
       |none a=>simp only[List.take_zero];exact .d .emp
       | @some m L cap i' l c' hcc hll=>
         rcases rO c' with h0|h0
         ·subst h0;have:len=0:=by omega
          subst this;simp only[List.take_zero];exact .d .emp
         ·have hlv:=hl.v;simp only[T6]at hlv;obtain⟨rfl,hlen,rfl⟩:=hlv;have key:RV σ (given σ I mm kp) w (.d (.ro false ((es.drop i).take len))) (.slice (some ⟨m,i*z,none⟩) ((es.drop i).take len).length c'):=.d (.ro (sz:=z) (fc:=false) val (.inr ⟨b,hk,b,_,_,rfl,hbm,hb,vK (by omega)⟩) hl.len hl.cap hl.max (fun h=>by cases h) (fun q e j x he hx=>(hl.cell _ rfl q e j x he hx).2) (fun q e j x he hx=>monoD (hl.rd q e j x he hx)) (fun q e j x he hx=>hl.one q e j x he hx));rw[<-hlen]at key;exact key
      ·exact .sl hb hs
     ·exact .sl hb hs
  | @ptr b off m hb=>
    simp only[fO];split
    ·exact .ptr hb
    ·rename_i hk;have hk:kp b=false:=by simpa using hk
     split
     ·rename_i cs T hbm;split
      ·rename_i ds hds;split
       ·rename_i hone;obtain⟨m',arr,g1,g2,g3,g4⟩:=hm.cells hbm;rw[hb]at g1;cases g1;have hlen:ds.length=cs.length:=by have:=dH List.length (wF hds);simpa using this.symm
        have hc:=fun(j:Nat) c (h:(ds.drop off)[j]? =some c)=>by
         have h':ds[off+j]? =some c:=by rwa[rQ]at h
         have hlt:off+j<arr.size:=by rw[g3,<-hlen];exact(cC.1 h').1
         have e1:arr.toList[off+j]? =some (arr.getD (off+j) undef):=by simp[hlt]
         exact(show w.cell? ⟨m,off+j,none⟩=some (arr.getD (off+j) undef)/\RD (given σ I mm kp) w c (arr.getD (off+j) undef)/\(arr.getD (off+j) undef).oneCell'=true from by
          refine⟨by rw[A9 g2];simpa using e1,?_,?_⟩
          ·exact lstD hds (fun i c x h1 h2=>g4 i c x h1 (by simpa using h2)) (off+j) c _ h' e1
          ·have hh:=aC (cs:=cs) (xs:=arr.toList) (fun i c x h1 h2=>g4 i c x h1 (by simpa using h2)) (off+j) (.d c) _ (by rw[wF hds];simp[h']) e1;exact P9 hh (eF.1 hone _ (eH (i:=off+j) (by rw[wF hds];simp[h']))))
        exact .d (.bM (fun j=>arr.getD (off+j) undef) (.inr ⟨b,hk,b,_,_,rfl,hbm,hb,rfl⟩) (fun j c h=>(hc j c h).1) (fun j c h=>(hc j c h).2.1) (fun j c h=>(hc j c h).2.2))
       ·exact .ptr hb
      ·exact .ptr hb
     ·exact .ptr hb
  |agg hl hr=>
   simp only[fO];exact .agg (by simpa using hl) (aC hr)
  |bI hl hr=>
   simp only[fO];exact .bI (by simpa using hl) (aC hr)
  |fn hx hy h1 h2=>
   simp only[fO];split
   ·rename_i x' y' e1 e2;have l1:=dH List.length (wF e1);have l2:=dH List.length (wF e2);simp at l1 l2;exact .d (.fn (by omega) (by omega) (lstD e1 h1) (lstD e2 h2))
   ·exact .fn (by simpa using hx) (by simpa using hy) (aC h1) (aC h2)
  |gK h=>
   simp only[fO];split
   ·rename_i d hd;have:=ih h;rw[Wu hd]at this;exact .d (.gK (NX this))
   ·exact .gK (ih h)
theorem zc1 {kp:Nat->Bool}{mm mm':Nat->Option bC}(h:∀b,kp b=false->mm b=mm' b):∀(n:Nat) (a:AV),fO kp mm n a=fO kp mm' n a:=by
 intro n;induction n with
 |zero=>intro a;rfl
 |succ n ih=>
  have hf:fO kp mm n=fO kp mm' n:=funext ih;intro a;cases a with
  |own b=>
   simp only[zcY];cases hb:kp b
   ·rw[h b hb]
   ·rfl
  |sl b sz i len=>
   simp only[zcW];cases hb:kp b
   ·rw[h b hb]
   ·rfl
  |ptr b off=>
   simp only[zcX];cases hb:kp b
   ·rw[h b hb,hf]
   ·rfl
  |agg cs=>simp only[zc2,hf]
  |bI cs=>simp only[zcV,hf]
  |fn f x y=>simp only[zc0,hf]
  |gK t x=>simp only[zcZ,ih]
  |_=>rfl
def pX (gv:List Nat)(mem:Mem):Mem:=fun b=>if gv.contains b then none else mem b
theorem UL (l r:List (Nat×Option bC))(b:Nat):wrote (l++r) b=match wrote l b with|some k=>some k|none=>wrote r b:=by
 induction l with
 |nil=>rfl
 |cons p l ih=>
  obtain⟨c,k⟩:=p;simp only[BY,wrote];split
  ·rfl
  ·exact ih
theorem Bf (gv:List Nat)(b:Nat):wrote (gv.map fun c=>(c,(none:Option bC))) b=if gv.contains b then some none else none:=by
 induction gv with
 |nil=>rfl
 |cons c l ih=>
  simp only[iU,wrote,ih];by_cases e:c=b
  ·simp[e]
  ·simp[e,tT e]
theorem bT.YZ {P:Program}{o:Oper}{tm:Nat->AV}{mem:Mem}{nm:Nat}(gv:List Nat){e:aP}(hgv:∀b,b∈gv->(mem b).isSome=true)
  (h:bT P o (fun t=>fO (fun b=>!gv.contains b) mem 8 (tm t)) (e.mr (pX gv mem)) nm e.res (e.mw (pX gv mem))):
  bT P o tm ((aP.mk e.res e.rd (e.wr++gv.map fun b=>(b,none))).mr mem) nm e.res ((aP.mk e.res e.rd (e.wr++gv.map fun b=>(b,none))).mw mem):=by
 intro a w σ I h1 h2 h3 h4 next Q hn
 let kp:Nat->Bool:=fun b=>!gv.contains b
 let m2:Mem:=(aP.mk e.res e.rd (e.wr++gv.map fun b=>(b,none))).mr mem
 have hm2:∀b,kp b=false->mem b=m2 b:=by
  intro b hb;have hc:gv.contains b=true:=by simpa[kp]using hb
  have hw:(wrote (e.wr++gv.map fun b=>(b,none)) b).isSome=true:=by
   rw[UL,Bf,hc];cases wrote e.wr b<;>rfl
  simp only[m2,aP.mr,hw,true_or,eA]
 have sub:∀b k,e.mr (pX gv mem) b=some k->m2 b=some k/\gv.contains b=false:=by
  intro b k hk;simp only[aP.mr]at hk;split at hk
  ·rename_i hc;simp only[pX]at hk;split at hk
   ·cases hk
   ·rename_i hg;refine⟨?_,by simpa using hg⟩;simp only[m2,aP.mr];rw[aU ?_]
    ·exact hk
    ·rcases hc with hc|hc
     ·left;rw[UL];obtain⟨q,hq⟩:=pA.1 hc;rw[hq];simp
     ·exact .inr hc
  ·cases hk
 have hib:∀n,given σ I m2 kp n->n<w.heap.size:=by
  intro n hn;rcases hn with hn|⟨b,_,c,k,y,hc,hk,hy,e⟩
  ·exact h1 n hn
  ·obtain⟨y',hy',_,hh⟩:=h3.bQ c k hk;rw[hy]at hy';cases hy';exact(hh n e).1
 have own2:∀n,fU σ (e.mr (pX gv mem)) n->fU σ m2 n:=by
  rintro n ⟨b,k,x,hb,hx,e⟩;exact⟨b,k,x,(sub b k hb).1,hx,e⟩
 have hrm:RM σ (given σ I m2 kp) w (e.mr (pX gv mem)):=by
  refine⟨fun b k hb=>?_,fun b b' k k' x x' n hb hb' hx hx' q q'=>h3.apart b b' k k' x x' n (sub b k hb).1 (sub b' k' hb').1 hx hx' q q'⟩;obtain⟨hb2,hbg⟩:=sub b k hb;obtain⟨x,hx,hrb,hh⟩:=h3.bQ b k hb2;refine⟨x,hx,hrb.mono (fun _ _=>rfl) (fun n h=>.inl h) (fun _ _ h=>h) (fun _ _=>rfl),fun n hn=>⟨(hh n hn).1,?_⟩⟩;rintro(hI|⟨c,hc,d,k',y,hd,hk',hy,q⟩)
  ·exact(hh n hn).2 hI
  ·cases hd;have:=h3.apart b c k k' x y n hb2 hk' hx hy hn q;subst this;simp only[kp]at hc;rw[hbg]at hc;cases hc
 refine h a w σ (given σ I m2 kp) hib (fun t ht=>?_) hrm h4 next Q (fun v σ' I' w' hp hv=>hn v σ' I' w' ?_ hv)
 ·have:=LY (kp:=kp) h3 8 (h2 t ht)
  rwa[<-zc1 (mm:=mem) (mm':=m2) hm2]at this
 ·have hmw:∀c q,(aP.mk e.res e.rd (e.wr++gv.map fun b=>(b,none))).mw mem c=some q->e.mw (pX gv mem) c=some q:=by
   intro c q hq;simp only[aP.mw,UL,Bf]at hq;simp only[aP.mw];cases hw:wrote e.wr c with
   |some o=>rw[hw]at hq;exact hq
   |none=>
    rw[hw]at hq;simp only at hq⊢;cases hc:gv.contains c with
    |true=>rw[hc]at hq;simp at hq
    |false=>
     rw[hc]at hq;simp only[pX,hc];simpa using hq
  have ownsMw:∀n,fU σ' ((aP.mk e.res e.rd (e.wr++gv.map fun b=>(b,none))).mw mem) n->fU σ' (e.mw (pX gv mem)) n:=by
   rintro n ⟨b,k,x,hb,hx,q⟩;exact⟨b,k,x,hmw b k hb,hx,q⟩
  refine⟨hp.os,hp.tape,hp.output,hp.size,hp.names,hp.new,fun n hn=>hp.vI n (.inl hn),hp.ib,fun n hn=>?_,fun n hn hno=>hp.frame n hn (fun ho=>hno (own2 n ho)),⟨fun b k hb=>hp.mem.bQ b k (hmw b k hb),fun b b' k k' x x' n hb hb'=>hp.mem.apart b b' k k' x x' n (hmw b k hb) (hmw b' k' hb')⟩,fun c q hq=>?_,fun n ho=>?_⟩
  ·rcases hp.lQ n hn with(g|⟨b,_,c,k,y,hc,hk,hy,q⟩)|g|g
   ·exact .inl g
   ·exact .inr (.inr ⟨c,k,y,hk,hy,q⟩)
   ·exact .inr (.inl g)
   ·exact .inr (.inr (own2 n g))
  ·rcases hp.wW c q (hmw c q hq)with g|g
   ·left;obtain⟨k,hk⟩:=Option.ne_none_iff_exists'.1 g;show m2 c≠none;rw[(sub c k hk).1];simp
   ·exact .inr g
  ·rcases hp.kX n (ownsMw n ho)with g|g
   ·exact .inl (own2 n g)
   ·exact .inr g
noncomputable def SJ (te:TI)(ka:Bool)(ks:List CK)(mem:Mem)(nm:Nat)(m key:AV):Option (Prop×aP):=
 match m,CS key with
 |.own b,some kc=>match mem b with
  |some (.map ka' ks' va look)=>if ka'=ka/\ks'=ks/\zK key=ka/\va=te.agg/\te.za=te.agg then
    some (jN ks kc=true/\look kc=none,⟨.bI [vA te.agg (te.zero.map D.v),.own nm],[],[(b,some (.oW ka ks va look kc nm))]⟩)else none
  |_=>none
 |_,_=>none
noncomputable def OR (mem:Mem)(m s x:AV):Option (Prop×aP):=
 match m,s,(cellsOf x).bind qY with
 |.own b,.own c',some ds=>match mem b with
  |some (.oW ka ks va look kc c)=>if zK x=va/\c=c' then some (True,⟨.d (.v undef),[],[(b,some (.map ka ks va (pC look kc ds)))]⟩)else none
  |_=>none
 |_,_,_=>none
theorem fK.open {σ:Names}{I:Nat->Prop}{w w':World}{m:Mem}{nm b:Nat}{x v:Value}{k k':bC}{n:Nat}(hib:∀n,I n->n<w.heap.size)(hm:RM σ I w m)
  (hb1:m b=some k) (hx:σ b=some x) (hn:hb x=some n) (hfr:σ nm=none) (ho:∀j,j≠n->w'.heap[j]? =w.heap[j]?) (hs:w'.heap.size=w.heap.size)
  (h1:w'.os=w.os) (h2:w'.tape=w.tape) (h3:sP w' w) (hk:RB (gP σ nm v) I w' k' x) {m':Mem} (hm':∀c q,m' c=some q->c=b/\q=k'):
  fK σ I w m nm (gP σ nm v) I w' m':=by
 have hne:b≠nm:=by rintro rfl;rw[hx]at hfr;cases hfr
 have hub:gP σ nm v b=some x:=by simp[gP,hne,hx]
 obtain⟨y,hy,_,hyn⟩:=hm.bQ b k hb1;rw[hx]at hy;cases hy;have hnn:=hyn n hn;refine⟨h1,h2,h3,by omega,fun c y hc=>?_,fun c hc hc'=>?_,fun _ h=>h,fun j hj=>by rw[hs];exact hib j hj,fun _ h=>.inl h,fun j hj hno=>ho j (fun e=>hno ⟨b,k,x,hb1,hx,by rw[hn,e]⟩),⟨fun c q hq=>?_,fun c c' q q' z z' j a1 a2 _ _ _ _=>?_⟩,fun c q hq=>?_,fun j hj=>?_⟩
 ·have:c≠nm:=by rintro rfl;rw[hc]at hfr;cases hfr
  simp[gP,this,hc]
 ·by_cases e:c=nm
  ·subst e;exact⟨cM _,by omega⟩
  ·simp[gP,e,hc]at hc'
 ·obtain⟨rfl,rfl⟩:=hm' c q hq;exact⟨x,hub,hk,fun j hj=>by rw[hs];exact hyn j hj⟩
 ·rw[(hm' c q a1).1,(hm' c' q' a2).1]
 ·rw[(hm' c q hq).1];exact .inl (by rw[hb1];simp)
 ·obtain⟨c,q,z,a1,a2,a3⟩:=hj;obtain⟨rfl,rfl⟩:=hm' c q a1;rw[hub]at a2;cases a2;exact .inl ⟨c,k,x,hb1,hx,a3⟩
theorem Fa (I:Nat->Prop)(w:World){kc:List Value}{keys:Nat->List Value}{look:List Value->Option (List D)}{ka va:Bool}{ks:List CK}{vals:Nat->List Value}{es:Array MapEntry}
  (g1:∀(i:Nat) e,es[i]? =some e->e.key=mk ka (keys i)/\e.val=mk va (vals i)/\jN ks (keys i)=true/\∃d,look (keys i)=some d/\d.length=(vals i).length)
  (g3:∀k d,look k=some d->∃i,i<es.size/\keys i=k) (h:look kc=none):nH kc keys es.size 0=none:=by
 rcases T1.nH (I:=I) (w:=w) g1 g3 kc with⟨i,_,_,_,d,h1,_⟩|⟨h1,_⟩
 ·rw[h]at h1;cases h1
 ·exact h1
theorem zd3 {P:Program}{o:Oper}{T:TypeId}{m key:Operand}(ho:o.op=.mapEntry T m key)(tm:Nat->AV)(mem:Mem)(nm:Nat){ti:TI}(hT:aZ P T=some ti){K E:TypeId}(hk:ti.k=.map K E){te:TI}(hE:aZ P E=some te){ka:Bool}{ks:List CK}(hK:EV P K ka ks){sc:Prop}{e:aP}
  (he:SJ te ka ks mem nm (ev tm m) (ev tm key)=some (sc,e)) (hsc:sc):bT P o tm (e.mr mem) nm e.res (e.mw mem):=by
 unfold SJ at he;split at he
 case h_2=>cases he
 rename_i b kc hm0 hkc;split at he
 case h_2=>cases he
 rename_i ka' ks' va look hb;split at he
 case isFalse=>cases he
 rename_i hc;obtain⟨rfl,rfl,c3,rfl,c5⟩:=hc;cases he;obtain⟨s1,s2⟩:=hsc;have hu:=XR hT hk;refine bT.val fun a w σ I h1 h h3 hfree=>?_;have hfr:σ nm=none:=hfree nm ⟨cM _,by omega⟩;have hvk:=RQ hkc (dZ (σ:=σ) (I:=I) (w:=w) (tm:=tm) (a:=a) (x:=key) fun s e=>h s (by simp[ho,Op.operands,e]));rw[c3]at hvk;have hvm:=dZ (σ:=σ) (I:=I) (w:=w) (tm:=tm) (a:=a) (x:=m) fun s e=>h s (by simp[ho,Op.operands,e])
 rw[hm0]at hvm;have hmr:=aP.lN (e:=⟨.bI [vA te.agg (te.zero.map D.v),.own nm],[],[(b,some (.oW ka' ks' te.agg look kc nm))]⟩) hb (.inr (by simp[wrote]));obtain⟨y,hy,hrb,hyn⟩:=h3.bQ b _ hmr;generalize hev:a.eval m=u at hvm;cases hvm with
 |own h' _=>
  rw[hy]at h';cases h';cases hrb with
  | @map _ _ _ _ n clock es keys vals hw g0 g1 g2 g3 g4=>
    have hck:=PA (w:=w) hK s1 false;have hfk:=run_findKey (w:=w) hK s1 (keys:=keys) (es:=es) (fun j e h=>⟨(g1 j e h).1,(g1 j e h).2.2.1⟩);have hg:(getObj n).run P w=.ok (.map es clock) w:=by simp[getObj,Sem.run,hw]
    have hs:=Fa I w g1 g3 s2;have hlt:=(qX.1 hw).1;have hzr:(zeroValue E).run P w=.ok (mk te.agg te.zero) w:=OC hE c5;refine⟨.tuple #[mk te.agg te.zero,.int .i64 clock],{w with heap:=w.heap.setIfInBounds n (.map (es.push {key:=mk ka' kc,val:=mk te.agg te.zero,born:=clock}) (clock+1))},gP σ nm (.int .i64 clock),I,?_,?_,?_⟩
    ·simp only[execOp,ho,eC];rw[hev,hvk];simp only[Instr.mapEntry,eC,dV hu,eQ,hg,hck,hfk,hs,Option.map_none,hzr];simp[setObj,Sem.run,hw,goInt]
    ·refine fK.open (w':={w with heap:=w.heap.setIfInBounds n (.map (es.push {key:=mk ka' kc,val:=mk te.agg te.zero,born:=clock}) (clock+1))}) (v:=.int .i64 (clock:Int)) (k':=.oW ka' ks' te.agg look kc nm) (b:=b) (n:=n) h1 h3 hmr hy rfl hfr (fun j hj=>by simp[uV (tT hj)]) (by simp) rfl rfl ⟨rfl,cM _⟩ ?_ (fun c q hq=>?_)
     ·refine .oW (z:=mk te.agg te.zero) keys vals (by simp[hlt]) (by simp[gP]) g0 s2 s1 g1 g2 g3 (fun i d j c x q1 q2 q3 q4=>?_);have hnI:¬I n:=(hyn n rfl).2;exact(g4 i d j c x q1 q2 q3 q4).mono (fun k hk=>by simp[uV (show n≠k from fun e=>hnI (e▸hk))]) (fun _ h=>h)
     ·rw[aP.IV]at hq;by_cases e:c=b
      ·simp[e]at hq;exact⟨e,hq.symm⟩
      ·simp[e]at hq
    ·refine .bI (xs:=[mk te.agg te.zero,.int .i64 clock]) rfl (fun i c x h4 h5=>?_)
     match i,h4,h5 with
     |0,h4,h5=>
      simp at h4 h5;subst h4;subst h5;refine TX (by simp) (fun j c x h6 h7=>?_);rw[iJ,h7]at h6;cases h6;exact .v _
     |1,h4,h5=>simp at h4 h5;subst h4;subst h5;exact .own (by simp[gP]) rfl
     |i+2,h4,h5=>simp at h4
theorem zd2 {P:Program}{o:Oper}{T:TypeId}{m s x:Operand}(ho:o.op=.entryStore T m s x)(tm:Nat->AV)(mem:Mem)(nm:Nat){sc:Prop}{e:aP}
  (he:OR mem (ev tm m) (ev tm s) (ev tm x)=some (sc,e)):bT P o tm (e.mr mem) nm e.res (e.mw mem):=by
 unfold OR at he;split at he
 case h_2=>cases he
 rename_i b c' ds hm0 hs0 hds;split at he
 case h_2=>cases he
 rename_i ka ks va look kc c hb;split at he
 case isFalse=>cases he
 rename_i hc;obtain⟨c4,rfl⟩:=hc;cases he;refine bT.skip fun a w σ I h1 h h3 _=>?_;have hvm:=dZ (σ:=σ) (I:=I) (w:=w) (tm:=tm) (a:=a) (x:=m) fun s e=>h s (by simp[ho,Op.operands,e])
 have hvs:=dZ (σ:=σ) (I:=I) (w:=w) (tm:=tm) (a:=a) (x:=s) fun s e=>h s (by simp[ho,Op.operands,e])
 have hvx:=dZ (σ:=σ) (I:=I) (w:=w) (tm:=tm) (a:=a) (x:=x) fun s e=>h s (by simp[ho,Op.operands,e])
 rw[hm0]at hvm;rw[hs0]at hvs;obtain⟨cl,hcl,hds'⟩:=Option.bind_eq_some_iff.1 hds;obtain⟨v1,v2⟩:=J7 hvx hcl;have hcd:=wF hds';subst hcd;have hvmk:a.eval x=mk va (a.eval x).cells.toList:=by rw[<-c4];exact val_mk hvx hcl
 have hmr:=aP.lN (e:=⟨.d (.v undef),[],[(b,some (.map ka ks va (pC look kc ds)))]⟩) hb (.inr (by simp[wrote]));obtain⟨y,hy,hrb,hyn⟩:=h3.bQ b _ hmr;generalize hev:a.eval m=u at hvm;cases hvm with
 |own h' _=>
  rw[hy]at h';cases h';cases hrb with
  | @oW _ _ _ _ _ _ n clock z es keys vals hw hst g0 hkc hfk g1 g2 g3 g4=>
    have hes:a.eval s=.int .i64 clock:=by
     generalize a.eval s=us at hvs;cases hvs with
     |own h6 _=>rw[hst]at h6;cases h6;rfl
    have hnI:¬I n:=(hyn n rfl).2;have hlt:=(qX.1 hw).1;have hg:(getObj n).run P w=.ok (.map (es.push {key:=mk ka kc,val:=z,born:=clock}) (clock+1)) w:=by simp[getObj,Sem.run,hw]
    have hfi:(es.push {key:=mk ka kc,val:=z,born:=clock}).findIdx? (fun e=>(e.born:Int)==(clock:Int))=some es.size:=by
     rw[Array.findIdx?_eq_some_iff_getElem];refine⟨by simp,by simp,fun j hj=>?_⟩;have hj':j<es.size:=hj;rw[Array.getElem_push_lt hj'];have:=g0 j es[j] (tV hj');simp;omega
    let ob:Obj:=.map (es.push {key:=mk ka kc,val:=mk va (a.eval x).cells.toList,born:=clock}) (clock+1)
    have hmod:((es.push {key:=mk ka kc,val:=z,born:=clock}).modify es.size fun e=>{e with val:=mk va (a.eval x).cells.toList})=es.push {key:=mk ka kc,val:=mk va (a.eval x).cells.toList,born:=clock}:=by
     apply Array.ext_getElem?;intro j;rw[UI,Array.getElem?_push,Array.getElem?_push];by_cases e1:j=es.size
     ·subst e1;simp
     ·simp[e1,tT e1]
    have hrun:(Instr.entryStore T (.map (some n)) (a.eval s) (a.eval x)).run P w=.ok () {w with heap:=w.heap.setIfInBounds n ob}:=by
     rw[hes];have ha:(asInt (.int .i64 (clock:Int))).run P w=.ok (clock:Int) w:=rfl;simp only[Instr.entryStore,eC,hg,eQ,ha,hfi];rw[hvmk,hmod];simp[setObj,Sem.run,hw,ob]
    have g4':∀(i:Nat) d (j:Nat) c x,i<es.size->look (keys i)=some d->d[j]? =some c->(vals i)[j]? =some x->RD I {w with heap:=w.heap.setIfInBounds n ob} c x:=fun i d j c x q1 q2 q3 q4=>
     (g4 i d j c x q1 q2 q3 q4).mono (fun k hk=>by simp[uV (show n≠k from fun e=>hnI (e▸hk))]) (fun _ h=>h)
    have hr':∀(j:Nat) c x',ds[j]? =some c->(a.eval x).cells.toList[j]? =some x'->RD I {w with heap:=w.heap.setIfInBounds n ob} c x':=fun j c x' q1 q2=>by
     have:=v2 j (.d c) x' (by simp[q1]) (by simpa using q2);exact(NX this).mono (fun k hk=>by simp[uV (show n≠k from fun e=>hnI (e▸hk))]) (fun _ h=>h)
    refine⟨_,σ,I,by rw[execOp,ho];simp only[hev,eC,hrun,eQ];rfl,?_⟩;refine fK.write (w':={w with heap:=w.heap.setIfInBounds n ob}) (b:=b) h1 h3 hmr hy rfl (fun j hj=>?_) (by simp) rfl rfl ⟨rfl,cM _⟩ ?_ HY
    ·simp[uV (tT hj)]
    ·exact(An (w:=w) (n:=n) (clock:=clock) g0 g1 g2 g3 g4' hfk (by simpa using v1.symm) hr').2 (Fa I w g1 g3 hkc) (by simp[hlt,ob])
theorem OD (l:List (Nat×Option bC))(b:Nat):(wrote l b).isSome=true↔b∈l.map (·.1):=by
 induction l with
 |nil=>simp[wrote]
 |cons p l ih=>
  obtain⟨c,k⟩:=p;simp only[wrote,iU,kN];by_cases h:c=b
  ·simp[h]
  ·simp[h,ih,tT h]
theorem ZP {a b:List Nat}(h:M4 a b=true){x:Nat}(hx:x∈a):x∉b:=by
 simp only[M4,eF]at h;have:=h x hx;simpa using this
theorem zfi {o:Oper}{t:Nat}(h:Operand.tmp t∈o.op.operands):t∈WW o:=by
 simp only[WW,List.mem_filterMap];exact⟨.tmp t,by simpa using h,rfl⟩
theorem Mo {ops:Array Oper}{o:Oper}{t:Nat}(h:looks ops o t):t∈XU ops o:=by
 rcases h with h|⟨g,wa,p,h1,h2,h3⟩
 ·exact dN.2 (.inl (zfi h))
 ·refine dN.2 (.inr ?_);simp[h1,h2,h3]
theorem zev {ops:Array Oper}{x y:Oper}(h:meets ops x y=false):
  (∀d,x.dst=some d->y.dst≠some d/\¬looks ops y d)/\(∀d,y.dst=some d->¬looks ops x d):=by
 simp only[meets,AH]at h;obtain⟨h1,h2⟩:=h;refine⟨fun d hd=>?_,fun d hd hl=>?_⟩
 ·simp only[hd,AH]at h1;refine⟨fun e=>?_,fun hl=>?_⟩
  ·simp[e]at h1
  ·have:=Mo hl;simp[this]at h1
 ·simp only[hd]at h2;have:=Mo hl;simp[this]at h2
theorem zhQ {ops:Array Oper}{pre:List (List Nat)}(h:JQ ops pre=true):Hr ops (fun j=>pre.getD j []):=by
 intro j o ho;have hj:j<ops.size:=(qX.1 ho).1;simp only[JQ,eF,KI]at h;have:=h j hj;simp only[ho,bN,eF,cP,xK]at this;obtain⟨⟨h1,h2⟩,_⟩:=this;have medge:∀e,e∈JP o↔∃ed∈o.after,Region.binds .any ed=true/\ed.on=e:=by
  intro e;simp only[JP,List.mem_filterMap];constructor
  ·rintro⟨ed,hed,he⟩;split at he
   ·rename_i hb;cases he;exact⟨ed,by simpa using hed,hb,rfl⟩
   ·cases he
  ·rintro⟨ed,hed,hb,rfl⟩;exact⟨ed,by simpa using hed,by simp[hb]⟩
 refine⟨fun e he hb=>h1 e.on ((medge _).2 ⟨e,he,hb,rfl⟩),fun i hi=>?_⟩;obtain⟨e,he,hor⟩:=h2 i hi;obtain⟨ed,hed,hb,rfl⟩:=(medge e).1 he;refine⟨ed,hed,hb,?_⟩;simpa using hor
theorem zhP {ops:Array Oper}{pre:List (List Nat)}(h:JQ ops pre=true){tr:List aP}(hl:tr.length=ops.size)(hf:R7 pre (tr.map aP.qP)=true):
  ∀i j,i<j->j<ops.size->i∈(fun j=>pre.getD j []) j\/KD ops (fun i=>tr.getD i ⟨.any,[],[]⟩) i j:=by
 intro i j hij hj;simp only[JQ,eF,KI]at h;have h1:=h j hj;simp only[R7,eF,KI,vZ,hl]at hf;have h2:=hf j hj i hij;have hoj:ops[j]? =some ops[j]:=tV hj;have hoi:ops[i]? =some ops[i]:=tV (by omega);simp only[hoj,bN,eF,KI]at h1;have h3:=h1.2 i hij;simp only[hoi,rT,UF]at h3;simp only[rT,UF,bN]at h2;rcases h3 with h3|h3
 ·exact .inl h3
 rcases h2 with h2|h2
 ·exact .inl h2
 refine .inr ?_;have hn:=zev (ops:=ops) (x:=ops[i]) (y:=ops[j]) (by simpa using h3);have ei:(tr.map aP.qP).getD i ([],[])=(tr.getD i ⟨.any,[],[]⟩).qP:=by
  simp[List.getD,iJ,cI (show i<tr.length by omega)]
 have ej:(tr.map aP.qP).getD j ([],[])=(tr.getD j ⟨.any,[],[]⟩).qP:=by
  simp[List.getD,iJ,cI (show j<tr.length by omega)]
 rw[ei,ej]at h2;obtain⟨⟨q1,q2⟩,q3⟩:=h2;refine⟨fun d hd=>?_,fun d hd o ho=>?_,fun b hb=>?_,fun b hb=>?_⟩
 ·simp only[hoi,FG]at hd;refine⟨by simpa[hoj]using(hn.1 d hd).1,fun o ho=>?_⟩;rw[hoj]at ho;cases ho;exact(hn.1 d hd).2
 ·simp only[hoj,FG]at hd;rw[hoi]at ho;cases ho;exact hn.2 d hd
 ·have:=(OD _ _).1 hb;refine⟨?_,ZP q1 this⟩;have hnot:=ZP q2 this;cases hw:wrote (tr.getD j ⟨.any,[],[]⟩).wr b with
  |none=>rfl
  |some k=>exact absurd ((OD _ _).1 (by rw[hw];rfl)) hnot
 ·exact ZP q3 ((OD _ _).1 hb)
def L9 (f:Fn)(a b:List AV):AV:=match qY a,qY b with
 |some x,some y=>.d (.fn f x y)
 |_,_=>.fn f a b
theorem ze1 {σ:Names}{I:Nat->Prop}{w:World}{f:Fn}{a b:List AV}{v:Value}(h:RV σ I w (.fn f a b) v):RV σ I w (L9 f a b) v:=by
 unfold L9;split
 ·rename_i x y hx hy;have ex:=wF hx;have ey:=wF hy;subst ex;subst ey;cases h with
  |fn l1 l2 h1 h2=>
   refine .d (.fn (by simpa using l1) (by simpa using l2) (fun i c u k1 k2=>?_) (fun i c u k1 k2=>?_))
   ·cases h1 i (.d c) u (by simp[k1]) k2 with
    |d h=>exact h
   ·cases h2 i (.d c) u (by simp[k1]) k2 with
    |d h=>exact h
 ·exact h
theorem zdM {P:Program}{o:Oper}{f:Fn}{first captured:Array Operand}(ho:o.op=.makeFunc f first captured)(tm:Nat->AV)(m:Mem)(nm:Nat):
  bT P o tm m nm (L9 f (first.toList.map (ev tm)) (captured.toList.map (ev tm))) m:=
 fun a w σ I h1 h2 h3 h4 next Q hn=>zdS ho tm m nm a w σ I h1 h2 h3 h4 next Q (fun v σ' I' w' hp hv=>hn v σ' I' w' hp (ze1 hv))
def NQ (P:Program)(o:Oper)(tm:Nat->AV)(mem:Mem)(nm:Nat):Option aP:=
 match o.op with
 |.move x=>some ⟨ev tm x,[],[]⟩
 |.assign x=>some ⟨ev tm x,[],[]⟩
 |.pick c x y=>match ev tm c with
  |.d (.v (.bool t))=>some ⟨CL t (ev tm x) (ev tm y),[],[]⟩
  |_=>none
 |.alloc T=>match aZ P T with
  |some ti=>some ⟨.ptr nm 0,[],[(nm,some (.cells (ti.zero.map fun v=>.d (.v v)) T))]⟩
  |none=>none
 |.box T x=>match cellsOf (ev tm x)with
  |some cs=>some ⟨.ptr nm 0,[],[(nm,some (.cells cs T))]⟩
  |none=>none
 |.load T x=>match aZ P T with
  |some ti=>CQ ti.agg ti.sz mem (ev tm x)
  |none=>none
 |.store T a x=>match aZ P T with
  |some ti=>OS ti.sz mem (ev tm x) (ev tm a)
  |none=>none
 |.binOp op T x y _=>match aZ P T with
  |some ti=>match TA op ti (ev tm x) (ev tm y)with
   |some r=>some ⟨r,[],[]⟩
   |none=>none
  |none=>none
 |.unOp op _ x=>match OK op (ev tm x)with
  |some r=>some ⟨r,[],[]⟩
  |none=>none
 |.fieldAddr T x f=>match aZ P T with
  |some ti=>match SE P ti f with
   |some off=>match GZ off (ev tm x)with
    |some r=>some ⟨r,[],[]⟩
    |none=>none
   |none=>none
  |none=>none
 |.field T x f=>match aZ P T with
  |some ti=>match ti.k with
   |.gJ fs=>match fs[f]? with
    |some (off,t,_)=>match aZ P t,E7 (ev tm x)with
     |some tf,some cs=>match tJ tf.agg tf.sz off cs with
      |some r=>some ⟨r,[],[]⟩
      |none=>none
     |_,_=>none
    |none=>none
   |_=>none
  |none=>none
 |.indexAddr T x i=>match aZ P T with
  |some ti=>match ti.k with
   |.arr n E=>match aZ P E with
    |some te=>GQ (.arr n E) te.sz mem (ev tm x) (ev tm i)
    |none=>none
   |.fL E=>match aZ P E with
    |some te=>GQ (.fL E) te.sz mem (ev tm x) (ev tm i)
    |none=>none
   |_=>none
  |none=>none
 |.index T x i=>match aZ P T with
  |some ti=>match ti.k with
   |.arr n E=>match aZ P E with
    |some te=>match RY n te.agg te.sz (ev tm x) (ev tm i)with
     |some r=>some ⟨r,[],[]⟩
     |none=>none
    |none=>none
   |.str=>match RX (ev tm x) (ev tm i)with
    |some r=>some ⟨r,[],[]⟩
    |none=>none
   |_=>none
  |none=>none
 |.extract x i=>match ev tm x with
  |.bI vs=>match vs[i]? with
   |some r=>some ⟨r,[],[]⟩
   |none=>none
  |_=>none
 |.build T parts=>match aZ P T with
  |some ti=>if RL P ti.k=true then match S5 P ti (parts.toList.map fun p=>(p.1,ev tm p.2))with
    |some r=>some ⟨r,[],[]⟩
    |none=>none
   else none
  |none=>none
 |.nilCheck x=>if XG (ev tm x)=true then some ⟨ev tm x,[],[]⟩else none
 |.makeInterface T x=>match aZ P T with
  |some ti=>if SQ ti.k=true then some ⟨XL T (ev tm x),[],[]⟩else none
  |none=>none
 |.makeFunc f first captured=>some ⟨L9 f (first.toList.map (ev tm)) (captured.toList.map (ev tm)),[],[]⟩
 |.call c=>match c.callee with
  |.builtin .min=>match QU (c.args.toList.map (ev tm))with
   |some r=>some ⟨r,[],[]⟩
   |none=>none
  |.builtin .max=>match Q0 (c.args.toList.map (ev tm))with
   |some r=>some ⟨r,[],[]⟩
   |none=>none
  |.builtin .len=>match c.argTypes[0]?,c.args[0]? with
   |some T,some x=>match aZ P T with
    |some ti=>I6 ti.k mem (ev tm x)
    |none=>none
   |_,_=>none
  |_=>none
 |_=>none
theorem aP.Hh {r:AV}{m:Mem}:(aP.mk r [] []).mr m=(fun _=>none)/\(aP.mk r [] []).mw m=fun _=>none:=by
 constructor<;>(funext b;simp[aP.mr,aP.mw,wrote])
theorem bT.tF {P:Program}{o:Oper}{tm:Nat->AV}{mem:Mem}{nm:Nat}{r:AV}(h:bT P o tm (fun _=>none) nm r (fun _=>none)):
  bT P o tm ((aP.mk r [] []).mr mem) nm r ((aP.mk r [] []).mw mem):=by
 rw[aP.Hh.1,aP.Hh.2];exact h
theorem zkH {P:Program}{o:Oper}{tm:Nat->AV}{mem:Mem}{nm:Nat}{e:aP}(h:NQ P o tm mem nm=some e):bT P o tm (e.mr mem) nm e.res (e.mw mem):=by
 unfold NQ at h;split at h
 ·cases h;exact .tF (Jj (.inl ‹_›) tm _ nm)
 ·cases h;exact .tF (Jj (.inr ‹_›) tm _ nm)
 ·split at h
  ·cases h;exact .tF (zdI ‹_› tm _ nm ‹_›)
  ·cases h
 ·split at h
  ·cases h;exact zef ‹_› tm mem nm ‹_›
  ·cases h
 ·split at h
  ·cases h;exact zea ‹_› tm mem nm ‹_›
  ·cases h
 ·split at h
  ·exact Jk ‹_› tm mem nm ‹_› h
  ·cases h
 ·split at h
  ·exact WY ‹_› tm mem nm ‹_› h
  ·cases h
 ·split at h
  ·split at h
   ·cases h;exact .tF (zeb ‹_› tm _ nm ‹_› ‹_›)
   ·cases h
  ·cases h
 ·split at h
  ·cases h;exact .tF (zdC ‹_› tm _ nm ‹_›)
  ·cases h
 ·split at h
  ·split at h
   ·split at h
    ·cases h;exact .tF (zdZ ‹_› tm _ nm ‹_› ‹_› ‹_›)
    ·cases h
   ·cases h
  ·cases h
 ·split at h
  ·split at h
   ·split at h
    ·split at h
     ·split at h
      ·cases h;exact .tF (zd0 ‹_› tm _ nm ‹_› ‹_› ‹_› ‹_› ‹_› ‹_›)
      ·cases h
     ·cases h
    ·cases h
   ·cases h
  ·cases h
 ·split at h
  ·split at h
   ·split at h
    ·rename_i n E hk _ _ _;exact W5 ‹_› tm mem nm ‹_› (.inl ⟨_,hk⟩) ‹_› (by rw[hk];exact h)
    ·cases h
   ·split at h
    ·rename_i E hk _ _ _;exact W5 ‹_› tm mem nm ‹_› (.inr hk) ‹_› (by rw[hk];exact h)
    ·cases h
   ·cases h
  ·cases h
 ·split at h
  ·split at h
   ·split at h
    ·split at h
     ·cases h;exact .tF (zdY ‹_› tm _ nm ‹_› ‹_› ‹_› ‹_›)
     ·cases h
    ·cases h
   ·split at h
    ·cases h;exact .tF (zdW ‹_› tm _ nm ‹_› ‹_› ‹_›)
    ·cases h
   ·cases h
  ·cases h
 ·split at h
  ·split at h
   ·cases h;exact .tF (zd1 ‹_› tm _ nm ‹_› ‹_›)
   ·cases h
  ·cases h
 ·split at h
  ·split at h
   ·split at h
    ·cases h;exact .tF (zd9 ‹_› tm _ nm ‹_› ‹_› ‹_›)
    ·cases h
   ·cases h
  ·cases h
 ·split at h
  ·cases h;exact .tF (zdK ‹_› tm _ nm ‹_›)
  ·cases h
 ·split at h
  ·split at h
   ·cases h;exact .tF (zdR ‹_› tm _ nm ‹_› ‹_›)
   ·cases h
  ·cases h
 ·cases h;exact .tF (zdM ‹_› tm _ nm)
 ·split at h
  ·split at h
   ·cases h;exact .tF (zdN ‹_› ‹_› tm _ nm ‹_›)
   ·cases h
  ·split at h
   ·cases h;exact .tF (zdO ‹_› ‹_› tm _ nm ‹_›)
   ·cases h
  ·split at h
   ·split at h
    ·exact Jl ‹_› ‹_› tm mem nm ‹_› ‹_› ‹_› h
    ·cases h
   ·cases h
  ·cases h
 ·cases h
def CJ (σ:Names)(p:Nat):Prop:=∃m,σ p=some (.pointer (some ⟨m,0,none⟩))
def gr (σ:Names):bC->bC
 |.eW ps T=>.grow 1 (ps.map fun b=>[.v ((σ b).getD undef)]) T
 |k=>k
def gm (σ:Names)(m:Mem):Mem:=fun b=>(m b).map (gr σ)
theorem zcz {σ:Names}{I:Nat->Prop}{w:World}{k:bC}{v:Value}(h:RB σ I w k v):RB σ I w (gr σ k) v:=by
 cases h with
 |zN=>exact .none
 |yF a=>exact .emp a
 | @eW ps T n cap arr hw hl hcap hmax hr=>
   have:=RB.grow (σ:=σ) (I:=I) (w:=w) (sz:=1) (es:=ps.map fun b=>[D.v ((σ b).getD undef)]) (T:=T) (n:=n) (cap:=cap+1) (arr:=arr) hw (by omega) (by simpa using hcap) hmax (by simp) (fun i e j c h1 h2=>by
    rw[iJ]at h1;obtain⟨b,hb,rfl⟩:=qA.1 h1;cases j with
    |succ j=>simp at h2
    |zero=>
     simp at h2;subst h2;obtain⟨m,q1,q2⟩:=hr i b hb;refine⟨.pointer (some ⟨m,0,none⟩),by simpa using q2,?_,rfl⟩;rw[q1];exact .v _)
   simpa[gr]using this
 |cells h1 h2 h3=>exact .cells h1 h2 h3
 |none=>exact .none
 |emp a=>exact .emp a
 |grow h1 h2 h3 h4 h5 h6=>exact .grow h1 h2 h3 h4 h5 h6
 |map keys vals h1 hb hk hu hl hv=>exact .map keys vals h1 hb hk hu hl hv
 |oW keys vals h1 hst hb hkc hfk hk hu hl hv=>exact .oW keys vals h1 hst hb hkc hfk hk hu hl hv
 |iter h1 h2=>exact .iter h1 h2
theorem zcy {σ σ':Names}{I:Nat->Prop}{w:World}{k:bC}{v:Value}(hk:∀ps T,k=.eW ps T->∀p∈ps,CJ σ p)(hσ:∀b x,σ b=some x->σ' b=some x)(h:RB σ' I w (gr σ k) v):RB σ' I w k v:=by
 cases k with
 |eW ps T=>
  simp only[gr]at h;generalize hq:(ps.map fun b=>[D.v ((σ b).getD undef)])=es at h;cases h with
  |none=>
   obtain rfl:ps=[]:=List.map_eq_nil_iff.1 hq;exact .zN
  |emp a=>
   obtain rfl:ps=[]:=List.map_eq_nil_iff.1 hq;exact .yF a
  | @grow _ _ _ n cap arr h1 h2 h3 h4 h5 h6=>
    subst hq;rw[vZ]at h3⊢;cases cap with
    |zero=>
     obtain rfl:ps=[]:=jL (by omega);exact .yF _
    |succ cap=>
     refine .eW h1 (by omega) h3 h4 (fun i b hi=>?_);obtain⟨m,hm⟩:=hk ps T rfl b (eH hi);obtain⟨x,g1,g2,_⟩:=h6 i [D.v ((σ b).getD undef)] 0 (D.v ((σ b).getD undef)) (by rw[iJ,hi];rfl) rfl;rw[hm]at g2;cases g2;exact⟨m,hσ _ _ hm,by simpa using g1⟩
 |_=>exact h
theorem P6 {σ σ0:Names}{m:Mem}{n:Nat}:fU σ (gm σ0 m) n↔fU σ m n:=by
 constructor
 ·rintro⟨b,k,x,h1,h2,h3⟩;obtain⟨k',hk',_⟩:=qA.1 h1;exact⟨b,k',x,hk',h2,h3⟩
 ·rintro⟨b,k,x,h1,h2,h3⟩;exact⟨b,gr σ0 k,x,by simp[gm,h1],h2,h3⟩
theorem zb7 {σ:Names}{I:Nat->Prop}{w:World}{m:Mem}(h:RM σ I w m):RM σ I w (gm σ m):=by
 refine⟨fun b k hk=>?_,fun b b' k k' x x' n h1 h2 h3 h4 h5 h6=>?_⟩
 ·obtain⟨k',hk',rfl⟩:=qA.1 hk;obtain⟨x,p,q,r⟩:=h.bQ b k' hk';exact⟨x,p,zcz q,r⟩
 ·obtain⟨q,hq,_⟩:=qA.1 h1;obtain⟨q',hq',_⟩:=qA.1 h2;exact h.apart b b' q q' x x' n hq hq' h3 h4 h5 h6
theorem zb6 {σ:Names}{I:Nat->Prop}{w:World}{m:Mem}(h:RM σ I w m){b:Nat}{ps:List Nat}{T:TypeId}(hb:m b=some (.eW ps T)):∀p∈ps,CJ σ p:=by
 obtain⟨x,_,hr,_⟩:=h.bQ b _ hb;intro p hp;cases hr with
 |zN=>cases hp
 |yF a=>cases hp
 |eW _ _ _ _ h5=>
  obtain⟨i,hi⟩:=vY.1 hp;obtain⟨m,q,_⟩:=h5 i p hi;exact⟨m,q⟩
theorem fK.Vm {σ:Names}{I:Nat->Prop}{w:World}{mr mw:Mem}{nm:Nat}{σ':Names}{I':Nat->Prop}{w':World}(hk:∀b ps T,mw b=some (.eW ps T)->∀p∈ps,CJ σ p)
  (h:fK σ I w (gm σ mr) nm σ' I' w' (gm σ mw)):fK σ I w mr nm σ' I' w' mw:=by
 refine⟨h.os,h.tape,h.output,h.size,h.names,h.new,h.vI,h.ib,fun n hn=>?_,fun n h1 h2=>h.frame n h1 (fun ho=>h2 (P6.1 ho)),⟨fun b k hb=>?_,fun b b' k k' x x' n h1 h2 h3 h4 h5 h6=>?_⟩,fun b k hb=>?_,fun n hn=>?_⟩
 ·rcases h.lQ n hn with g|g|g
  ·exact .inl g
  ·exact .inr (.inl g)
  ·exact .inr (.inr (P6.1 g))
 ·obtain⟨x,p,q,r⟩:=h.mem.bQ b (gr σ k) (by simp[gm,hb]);exact⟨x,p,zcy (fun ps T e=>hk b ps T (e▸hb)) h.names q,r⟩
 ·exact h.mem.apart b b' (gr σ k) (gr σ k') x x' n (by simp[gm,h1]) (by simp[gm,h2]) h3 h4 h5 h6
 ·rcases h.wW b (gr σ k) (by simp[gm,hb])with g|g
  ·exact .inl (fun e=>g (by simp[gm,e]))
  ·exact .inr g
 ·rcases h.kX n (P6.2 hn)with g|g
  ·exact .inl (P6.1 g)
  ·exact .inr g
theorem bT.gp {P:Program}{o:Oper}{tm:Nat->AV}{mr mw:Mem}{nm:Nat}{res:AV}
  (h:∀σ:Names,(∀b ps T,mr b=some (.eW ps T)->∀p∈ps,CJ σ p)->(∀t q off,Operand.tmp t∈o.op.operands->tm t=.ptr q off->CJ σ q)->
    ∃(tm':Nat->AV) (res':AV),bT P o tm' (gm σ mr) nm res' (gm σ mw)/\(∀I w t v,Operand.tmp t∈o.op.operands->RV σ I w (tm t) v->RV σ I w (tm' t) v)/\(∀σ' I w v,(∀b x,σ b=some x->σ' b=some x)->RV σ' I w res' v->RV σ' I w res v))
  (hw:∀b ps T,mw b=some (.eW ps T)->∀p∈ps,(∃b' ps' T',mr b'=some (.eW ps' T')/\p∈ps')\/∃t off,Operand.tmp t∈o.op.operands/\tm t=.ptr p off):bT P o tm mr nm res mw:=by
 intro a w σ I hib hop hm hfree next Q hnext;have k1:∀b ps T,mr b=some (.eW ps T)->∀p∈ps,CJ σ p:=fun b ps T hb=>zb6 hm hb;have k2:∀t q off,Operand.tmp t∈o.op.operands->tm t=.ptr q off->CJ σ q:=by
  intro t q off ht e;have:=hop t ht;rw[e]at this;generalize a.tmps.getD t undef=v at this;cases this with
  |ptr h=>exact⟨_,h⟩
 obtain⟨tm',res',h1,h2,h3⟩:=h σ k1 k2;refine h1 a w σ I hib (fun t ht=>h2 I w t _ ht (hop t ht)) (zb7 hm) hfree next Q (fun v σ' I' w' hp hv=>hnext v σ' I' w' (fK.Vm (fun b ps T hb p hpp=>?_) hp) (h3 σ' I' w' v hp.names hv));rcases hw b ps T hb p hpp with⟨b',ps',T',q1,q2⟩|⟨t,off,q1,q2⟩
 ·exact k1 b' ps' T' q1 p q2
 ·exact k2 t p off q1 q2
def aP.gr (e:aP)(σ:Names)(r:AV):aP:=⟨r,e.rd,e.wr.map fun p=>(p.1,p.2.map (Go.AI.gr σ))⟩
theorem UK (σ:Names)(b:Nat):∀l:List (Nat×Option bC),wrote (l.map fun p=>(p.1,p.2.map (gr σ))) b=(wrote l b).map (Option.map (gr σ))
 |[]=>rfl
 | (c,k)::r=>by
   simp only[iU,wrote];split
   ·rfl
   ·exact UK σ b r
theorem ze0 (e:aP)(σ:Names)(r:AV)(m:Mem):(e.gr σ r).mr (gm σ m)=gm σ (e.mr m):=by
 funext b
 simp only[aP.mr,aP.gr,UK,gm];cases wrote e.wr b<;>simp<;>split<;>simp_all
theorem zeV (e:aP)(σ:Names)(r:AV)(m:Mem):(e.gr σ r).mw (gm σ m)=gm σ (e.mw m):=by
 funext b
 simp only[aP.mw,aP.gr,UK,gm];cases wrote e.wr b<;>simp;split<;>simp_all
theorem bT.MS {P:Program}{o:Oper}{tm:Nat->AV}{mem:Mem}{nm:Nat}{e:aP}
  (h:∀σ:Names,(∀b ps T,mem b=some (.eW ps T)->b∈e.rd\/(wrote e.wr b).isSome->∀p∈ps,CJ σ p)->(∀t q off,Operand.tmp t∈o.op.operands->tm t=.ptr q off->CJ σ q)->
    ∃(tm':Nat->AV) (res':AV),bT P o tm' ((e.gr σ res').mr (gm σ mem)) nm res' ((e.gr σ res').mw (gm σ mem))/\(∀I w t v,Operand.tmp t∈o.op.operands->RV σ I w (tm t) v->RV σ I w (tm' t) v)/\(∀σ' I w v,(∀b x,σ b=some x->σ' b=some x)->RV σ' I w res' v->RV σ' I w e.res v))
  (hw:∀b ps T,(b,some (bC.eW ps T))∈e.wr->∀p∈ps,(∃b' ps' T',mem b'=some (.eW ps' T')/\(b'∈e.rd\/(wrote e.wr b').isSome)/\p∈ps')\/∃t off,Operand.tmp t∈o.op.operands/\tm t=.ptr p off):bT P o tm (e.mr mem) nm e.res (e.mw mem):=by
 have hmr:∀b k,e.mr mem b=some k->mem b=some k/\(b∈e.rd\/(wrote e.wr b).isSome):=by
  intro b k hb;simp only[aP.mr]at hb;split at hb
  ·rename_i hc;exact⟨hb,hc.symm⟩
  ·cases hb
 have wm:∀(l:List (Nat×Option bC)) b k,wrote l b=some k->(b,k)∈l:=by
  intro l;induction l with
  |nil=>intro b k h;cases h
  |cons p l ih=>
   intro b k h;obtain⟨c,q⟩:=p;simp only[wrote]at h;split at h
   ·rename_i e;cases h;subst e;simp
   ·exact xG _ (ih b k h)
 refine bT.gp (fun σ k1 k2=>?_) (fun b ps T hb p hp=>?_)
 ·obtain⟨tm',res',h1,h2,h3⟩:=h σ (fun b ps T hb hc=>k1 b ps T (by rw[aP.mr,aU hc.symm];exact hb)) k2;rw[ze0,zeV]at h1;exact⟨tm',res',h1,h2,h3⟩
 ·simp only[aP.mw]at hb;split at hb
  ·rename_i k hk;subst hb;rcases hw b ps T (wm _ _ _ hk) p hp with⟨b',ps',T',q1,q2,q3⟩|q
   ·exact .inl ⟨b',ps',T',by rw[aP.mr,aU q2.symm];exact q1,q3⟩
   ·exact .inr q
  ·split at hb
   ·rename_i hc;exact .inl ⟨b,ps,T,by rw[aP.mr,aU (.inr hc)];exact hb,hp⟩
   ·cases hb
section
variable {P : Program} {o : Oper} {tm : Nat -> AV} {mem : Mem} {nm : Nat}
theorem zdV {c:Call}(ho:o.op=.call c)(hc:c.callee=.builtin .len){T E:TypeId}(hT:c.argTypes[0]? =some T){ti:TI}(hti:aZ P T=some ti)(hk:ti.k=.fL E){x:Operand}(hx:c.args[0]? =some x)
  {b:Nat} {ps:List Nat} {U:TypeId} (hv:ev tm x=.own b) (hb:mem b=some (.eW ps U)):
  bT P o tm ((aP.mk (.d (.v (.int .i64 ps.length))) [b] []).mr mem) nm (.d (.v (.int .i64 ps.length))) ((aP.mk (.d (.v (.int .i64 ps.length))) [b] []).mw mem):=by
 refine bT.MS (e:=⟨.d (.v (.int .i64 ps.length)),[b],[]⟩) (fun σ _ _=>⟨tm,.d (.v (.int .i64 ps.length)),?_,fun _ _ _ _ _ h=>h,fun _ _ _ _ _ h=>h⟩) (fun _ _ _ h=>by cases h);refine Jl ho hc tm (gm σ mem) nm hT hti hx (e:=⟨_,[b],[]⟩) ?_;rw[hv,hk];simp[I6,gm,hb,gr]
theorem zdX {T E:TypeId}{x i:Operand}(ho:o.op=.indexAddr T x i){ti:TI}(hT:aZ P T=some ti)(hk:ti.k=.fL E){te:TI}(hTe:aZ P E=some te)(hz:te.sz=1)
  {b j:Nat} {ps:List Nat} {U:TypeId} (hv:ev tm x=.own b) (hi:ev tm i=.d (.v (.int .i64 j))) (hb:mem b=some (.eW ps U)) (hj:j<ps.length):
  bT P o tm ((aP.mk (.iF b 1 j 0) [b] []).mr mem) nm (.iF b 1 j 0) ((aP.mk (.iF b 1 j 0) [b] []).mw mem):=by
 refine bT.MS (e:=⟨.iF b 1 j 0,[b],[]⟩) (fun σ _ _=>⟨tm,.iF b 1 j 0,?_,fun _ _ _ _ _ h=>h,fun _ _ _ _ _ h=>h⟩) (fun _ _ _ h=>by cases h);refine W5 ho tm (gm σ mem) nm hT (.inr hk) hTe (e:=⟨_,[b],[]⟩) ?_;rw[hv,hi,hk,hz];simp[GQ,gm,hb,gr,hj]
theorem zdU {T:TypeId}{x:Operand}(ho:o.op=.load T x){ti:TI}(hT:aZ P T=some ti)(hg:ti.agg=false)
  {b j p:Nat} {ps:List Nat} {U:TypeId} (hv:ev tm x=.iF b 1 j 0) (hb:mem b=some (.eW ps U)) (hj:ps[j]? =some p):
  bT P o tm ((aP.mk (.ptr p 0) [b] []).mr mem) nm (.ptr p 0) ((aP.mk (.ptr p 0) [b] []).mw mem):=by
 refine bT.MS (e:=⟨.ptr p 0,[b],[]⟩) (fun σ k1 _=>⟨tm,.d (.v ((σ p).getD undef)),?_,fun _ _ _ _ _ h=>h,fun σ' I w v hσ h=>?_⟩) (fun _ _ _ h=>by cases h)
 ·refine Jk ho tm (gm σ mem) nm hT (e:=⟨_,[b],[]⟩) ?_;rw[hv,hg];simp[CQ,gm,hb,gr,hj,tJ]
 ·obtain⟨m,hm⟩:=k1 b ps U hb (.inl (by simp)) p (eH hj);rw[hm]at h;rw[fM h];exact .ptr (hσ _ _ hm)
def vp (σ:Names):AV->AV
 |.ptr q 0=>.d (.v ((σ q).getD undef))
 |a=>a
theorem Uz {σ:Names}{I:Nat->Prop}{w:World}{a:AV}{v:Value}(h:RV σ I w a v):RV σ I w (vp σ a) v:=by
 unfold vp;split
 ·rename_i q;cases h with
  |ptr h=>rw[h];exact .d (.v _)
 ·exact h
theorem zd8 {T E:TypeId}{t:Nat}(ho:o.op=.buildSlice T 1 #[(0,.tmp t)]){ti te:TI}(hT:aZ P T=some ti)(hk:ti.k=.fL E)(hE:aZ P E=some te)(hz:te.sz=1)(hz0:te.zero.length=1){p:Nat}(hv:tm t=.ptr p 0):
  bT P o tm ((aP.mk (.own nm) [] [(nm,some (.eW [p] E))]).mr mem) nm (.own nm) ((aP.mk (.own nm) [] [(nm,some (.eW [p] E))]).mw mem):=by
 have hop:Operand.tmp t∈o.op.operands:=by simp[ho,Op.operands]
 refine bT.MS (e:=⟨.own nm,[],[(nm,some (.eW [p] E))]⟩) (fun σ _ k2=>⟨fun s=>vp σ (tm s),.own nm,?_,fun _ _ _ _ _ h=>Uz h,fun _ _ _ _ _ h=>h⟩) (fun b ps T' h q hq=>?_)
 ·obtain⟨m,hm⟩:=k2 t p 0 hop hv;obtain⟨z,hzz⟩:∃z,te.zero=[z]:=List.length_eq_one_iff.1 hz0;refine Jo ho (fun s=>vp σ (tm s)) (gm σ mem) nm hT hk hE (sc:=True) (e:=(aP.mk (.own nm) [] [(nm,some (.eW [p] E))]).gr σ (.own nm)) ?_;simp[ev,hv,vp,hm,hz,hzz,aP.gr,gr,M9,A3,chunk,qY,DU,EN,cellsOf,lay,Value.oneCell']
 ·simp at h;obtain⟨rfl,rfl,rfl⟩:=h;simp at hq;subst hq;exact .inr ⟨t,0,hop,hv⟩
theorem Jr {c:Call}(ho:o.op=.call c)(hc:c.callee=.builtin .append){T U:TypeId}(hT:c.argTypes=#[T,U]){x y:Operand}(hx:c.args=#[x,y]){E:TypeId}{ti te:TI}(hti:aZ P T=some ti)(hk:ti.k=.fL E)(hte:aZ P E=some te)
  (hb0:0<te.bytes) (hz0:te.zero.length=te.sz) (hz:te.sz=1) (hU:∃e,P.underlying U=some (.slice e)) {a:Option Nat} {b:Nat} {ps qs:List Nat}
  (hv:(ev tm x=.d (.v (.slice none 0 0))/\a=none/\ps=[])\/∃a',ev tm x=.own a'/\a=some a'/\mem a'=some (.eW ps E)) (hv2:ev tm y=.own b) (hb:mem b=some (.eW qs E)) (hs:(ps.length+qs.length)*te.bytes<=140737488355328):
  bT P o tm ((aP.mk (.own nm) [b] ((nm,some (.eW (ps++qs) E))::a.toList.map fun a=>(a,none))).mr mem) nm (.own nm) ((aP.mk (.own nm) [b] ((nm,some (.eW (ps++qs) E))::a.toList.map fun a=>(a,none))).mw mem):=by
 refine bT.MS (e:=⟨.own nm,[b],(nm,some (.eW (ps++qs) E))::a.toList.map fun a=>(a,none)⟩) (fun σ _ _=>⟨tm,.own nm,?_,fun _ _ _ _ _ h=>h,fun _ _ _ _ _ h=>h⟩) (fun d rs T' h q hq=>?_)
 ·have e1:(aP.mk (.own nm) [b] ((nm,some (.eW (ps++qs) E))::a.toList.map fun a=>(a,none))).gr σ (.own nm)=⟨.own nm,[b],(nm,some (.grow te.sz ((ps.map fun b=>[.v ((σ b).getD undef)])++(qs.map fun b=>[.v ((σ b).getD undef)])) E))::a.toList.map fun a=>(a,none)⟩:=by
   simp[aP.gr,gr,hz,Function.comp_def]
  rw[e1];have hl:∀l:List Nat,jV (l.map fun b=>[D.v ((σ b).getD undef)]) te.sz:=by
   intro l e he;obtain⟨q,_,rfl⟩:=eR.1 he;simp[hz]
  have hd:G0 te.sz E (gm σ mem) (ev tm x)=some (ps.map (fun b=>[.v ((σ b).getD undef)]),a.isNone,a):=by
   rcases hv with⟨h1,rfl,rfl⟩|⟨a',h1,rfl,h2⟩
   ·rw[h1];simp[G0]
   ·rw[h1];simp[G0,gm,h2,gr,hz]
  have hsrc:NN false te.sz (gm σ mem) (ev tm y)=some (qs.map (fun b=>[.v ((σ b).getD undef)]),[b]):=by
   rw[hv2];simp[NN,HW,gm,hb,gr,hz]
  obtain⟨sc,e2,he,hsc,hee⟩:∃sc e2,G4 false te.sz te.bytes E (gm σ mem) nm (ev tm x) (ev tm y)=some (sc,e2)/\sc/\e2=⟨.own nm,[b],(nm,some (.grow te.sz ((ps.map fun b=>[.v ((σ b).getD undef)])++(qs.map fun b=>[.v ((σ b).getD undef)])) E))::a.toList.map fun a=>(a,none)⟩:=by
   unfold G4;rw[hd,hsrc];refine⟨_,_,rfl,⟨fun hf=>.inl ?_,hl ps,hl qs,by simpa using hs⟩,rfl⟩;rcases hv with⟨_,_,rfl⟩|⟨a',_,rfl,_⟩
   ·rfl
   ·simp at hf
  subst hee;exact W6 ho hc tm (gm σ mem) nm hT hx hti hk hte hb0 hz0 (str:=false) (by simpa using hU) he hsc
 ·simp at h;obtain⟨rfl,rfl,rfl⟩:=h;rcases dN.1 hq with g|g
  ·rcases hv with⟨_,_,rfl⟩|⟨a',_,rfl,h2⟩
   ·cases g
   ·exact .inl ⟨a',_,_,h2,.inr (by simp[wrote];split<;>simp),g⟩
  ·exact .inl ⟨b,_,_,hb,.inl (by simp),g⟩
end
end Go.AI
namespace Go.AI
open Classical
def YD (P:Program)(T:TypeId)(ka:Bool)(ks:List CK):Bool:=
 decide (pY P 8 T=some ks)&&RS P T&&decide (ks.length=dC P T)&&(match P.underlying T with
  |some d=>decide (j6 d=ka)&&(ka|| (match d,ks with|.int _,[.int]=>true|.bool,[.bool]=>true|.string,[.str]=>true|_,_=>false))
  |none=>false)
theorem zfW {P:Program}{T:TypeId}{ka:Bool}{ks:List CK}(h:YD P T ka ks=true):EV P T ka ks:=by
 simp only[YD,bN,cP]at h;obtain⟨⟨⟨h1,h2⟩,h3⟩,h4⟩:=h;refine⟨h1,h2,h3,?_⟩;split at h4
 ·rename_i d hd;simp only[bN,cP,rT]at h4;first|rw[hd]|skip
  refine And.intro h4.1 (fun hk=>?_);rcases h4.2 with h|h
  ·rw[hk]at h;cases h
  ·exact h
 ·cases h4
structure MI where
 K:TypeId
 E:TypeId
 ka:Bool
 ks:List CK
 te:TI
def x8 (P:Program)(T:TypeId):Option MI:=
 match aZ P T with
 |some ti=>match ti.k with
  |.map K E=>match aZ P K,aZ P E with
   |some tk,some te=>match tk.fl with
    |some ks=>if YD P K tk.agg ks then some ⟨K,E,tk.agg,ks,te⟩else none
    |none=>none
   |_,_=>none
  |_=>none
 |none=>none
theorem QV {P:Program}{T:TypeId}{mi:MI}(h:x8 P T=some mi):∃ti,aZ P T=some ti/\ti.k=.map mi.K mi.E/\aZ P mi.E=some mi.te/\EV P mi.K mi.ka mi.ks:=by
 unfold x8 at h;split at h
 case h_2=>cases h
 rename_i ti hti;split at h
 case h_2=>cases h
 rename_i K E hk;split at h
 case h_2=>cases h
 rename_i tk te htk hte;split at h
 case h_2=>cases h
 rename_i ks hks;split at h
 ·rename_i hb;cases h;exact⟨ti,hti,hk,hte,zfW hb⟩
 ·cases h
def yL (P:Program)(T:TypeId):Option (TypeId×TI):=
 match aZ P T with
 |some ti=>match ti.k with
  |.fL E=>match aZ P E with
   |some te=>some (E,te)
   |none=>none
  |_=>none
 |none=>none
theorem CW {P:Program}{T E:TypeId}{te:TI}(h:yL P T=some (E,te)):∃ti,aZ P T=some ti/\ti.k=.fL E/\aZ P E=some te:=by
 unfold yL at h;split at h
 case h_2=>cases h
 rename_i ti hti;split at h
 case h_2=>cases h
 rename_i E' hk;split at h
 ·rename_i te' hte;cases h;exact⟨ti,hti,hk,hte⟩
 ·cases h
noncomputable def NP (P:Program)(o:Oper)(tm:Nat->AV)(mem:Mem)(nm:Nat):Option (Prop×aP):=
 match o.op with
 |.buildSlice T len parts=>match yL P T with
  |some (E,te)=>M9 te.sz len te.zero E nm (parts.toList.map fun p=>(p.1,ev tm p.2))
  |none=>none
 |.makeMap T none=>match x8 P T with
  |some mi=>some (True,⟨.own nm,[],[(nm,some (.map mi.ka mi.ks mi.te.agg fun _=>none))]⟩)
  |none=>none
 |.range T x=>match aZ P T,ev tm x with
  |some ti,.d (.v (.string s))=>if ti.k=.str then some (True,⟨.own nm,[],[(nm,some (.iter s 0))]⟩)else none
  |_,_=>none
 |.next x true=>QO mem (ev tm x)
 |.lookup T x k ok=>match x8 P T with
  |some mi=>Q4 mi.te mi.ka mi.ks mem (ev tm x) (ev tm k) ok
  |none=>none
 |.mapUpdate T m k x=>match x8 P T with
  |some mi=>K4 mi.te mi.ka mi.ks mem (ev tm m) (ev tm k) (ev tm x)
  |none=>none
 |.insert T m k x=>match x8 P T with
  |some mi=>K4 mi.te mi.ka mi.ks mem (ev tm m) (ev tm k) (ev tm x)
  |none=>none
 |.convert S T x=>match aZ P S,aZ P T with
  |some ts,some td=>M6 ts.k td.k (match ts.k with
   |.fL E=>match aZ P E with
    |some te=>if te.sz=1 then some te.k else none
    |none=>none
   |_=>none) mem (ev tm x)
  |_,_=>none
 |.slice T x lo hi mx=>match aZ P T with
  |some ti=>if mx.isSome=true/\hi.isSome=false then none else match ti.k with
   |.fL E=>match aZ P E with
    |some te=>LI (.fL E) te.sz mem (ev tm x) (lo.map (ev tm)) (hi.map (ev tm)) (mx.map (ev tm))
    |none=>none
   |.str=>LI .str 0 mem (ev tm x) (lo.map (ev tm)) (hi.map (ev tm)) (mx.map (ev tm))
   |_=>none
  |none=>none
 |.makeSlice T l c=>match yL P T with
  |some (E,te)=>if te.zero.all Value.oneCell'=true then Q3 te E nm (ev tm l) (ev tm c)else none
  |none=>none
 |.typeAssert x _ T ok=>match aZ P T with
  |some te=>ON (match te.k with|.iface _=>true|_=>false) T te ok (ev tm x)
  |none=>none
 |.binOp op T x y _=>match LM op (ev tm x) (ev tm y)with
  |some r=>some r
  |none=>match aZ P T with
   |some ti=>QK op y ti.k mem (ev tm x)
   |none=>none
 |.call c=>match c.callee with
  |.builtin .append=>match c.argTypes.toList,c.args.toList with
   |[T,U],[x,y]=>match yL P T,aZ P U with
    |some (E,te),some tu=>if 0<te.bytes/\te.zero.length=te.sz then match tu.k with
      |.str=>G4 true te.sz te.bytes E mem nm (ev tm x) (ev tm y)
      |.fL _=>G4 false te.sz te.bytes E mem nm (ev tm x) (ev tm y)
      |.int .i64=>if te.zero.all Value.oneCell'=true then TG te E nm (ev tm x) (ev tm y)else none
      |_=>none
     else none
    |_,_=>none
   |_,_=>none
  |.builtin .cap=>match c.argTypes[0]?,c.args[0]? with
   |some T,some x=>match aZ P T with
    |some ti=>S1 ti.k (ev tm x)
    |none=>none
   |_,_=>none
  |.builtin .clear=>match c.argTypes[0]?,c.args[0]? with
   |some T,some x=>match yL P T with
    |some (E,te)=>if te.zero.all Value.oneCell'=true then SY te mem (ev tm x)else none
    |none=>none
   |_,_=>none
  |_=>none
 |_=>none
theorem mZ {α:Type}{a:Array α}{x y:α}(h:a.toList=[x,y]):a=#[x,y]:=by
 cases a;simp at h;simp[h]
theorem zkJ {P:Program}{o:Oper}{tm:Nat->AV}{mem:Mem}{nm:Nat}{sc:Prop}{e:aP}(h:NP P o tm mem nm=some (sc,e))(hsc:sc):bT P o tm (e.mr mem) nm e.res (e.mw mem):=by
 unfold NP at h;split at h
 ·split at h
  ·rename_i he;obtain⟨ti,h1,h2,h3⟩:=CW he;exact Jo ‹_› tm mem nm h1 h2 h3 h
  ·cases h
 ·split at h
  ·cases h;exact zdQ ‹_› rfl tm mem nm _ _ _ rfl
  ·cases h
 ·split at h
  ·rename_i ti s hti hx;split at h
   ·cases h;exact zdG ‹_› tm mem nm hti ‹_› hx rfl
   ·cases h
  ·cases h
 ·exact zdL ‹_› tm mem nm h
 ·split at h
  ·rename_i mi hmi;obtain⟨ti,h1,h2,h3,h4⟩:=QV hmi;exact zdT ‹_› tm mem nm h1 h2 h3 h4 h hsc
  ·cases h
 ·split at h
  ·rename_i ho _ mi hmi;obtain⟨ti,h1,h2,h3,h4⟩:=QV hmi;exact Jb (.inl ho) tm mem nm h1 h2 h4 h hsc
  ·cases h
 ·split at h
  ·rename_i ho _ mi hmi;obtain⟨ti,h1,h2,h3,h4⟩:=QV hmi;exact Jb (.inr ho) tm mem nm h1 h2 h4 h hsc
  ·cases h
 ·split at h
  ·rename_i ts td hts htd;refine zd4 ‹_› tm mem nm hts htd (fun E hE k hk=>?_) h hsc;rw[hE]at hk;simp only at hk;split at hk
   ·rename_i te hte;split at hk
    ·cases hk;exact⟨te,hte,rfl,‹_›⟩
    ·cases hk
   ·cases hk
  ·cases h
 ·split at h
  ·rename_i ho _ ti hti;split at h
   ·cases h
   ·rename_i hmh;have hmh':∀{mx hi:Option Operand},¬(mx.isSome=true/\hi.isSome=false)->mx≠none->hi≠none:=by
     intro mx hi h1 h2 h3;subst h3;cases mx with
     |none=>exact h2 rfl
     |some _=>exact h1 ⟨rfl,rfl⟩
    split at h
    ·rename_i E hk;split at h
     ·rename_i te hte;exact ok_slice (sz:=te.sz) ho (hmh' hmh) tm mem nm hti (fun E' hE'=>by rw[hk]at hE';cases hE';exact⟨te,hte,rfl⟩) (by rw[hk];exact h) hsc
     ·cases h
    ·rename_i hk;exact ok_slice (sz:=0) ho (hmh' hmh) tm mem nm hti (fun E' hE'=>by rw[hk]at hE';cases hE') (by rw[hk];exact h) hsc
    ·cases h
  ·cases h
 ·split at h
  ·rename_i he;obtain⟨ti,h1,h2,h3⟩:=CW he;split at h
   ·rename_i hz;exact zdP ‹_› tm mem nm h1 h2 h3 (fun x hx=>by simpa using eF.1 hz x hx) h hsc
   ·cases h
  ·cases h
 ·split at h
  ·rename_i te hte;refine zdD ‹_› tm mem nm hte (fun ha b hb=>?_) h;rw[hb]at ha;cases ha
  ·cases h
 ·split at h
  ·rename_i ho _ r hr;cases h;exact zdF ho tm mem nm hr hsc
  ·split at h
   ·exact QB ‹_› tm mem nm ‹_› h
   ·cases h
 ·rename_i c ho;split at h
  ·rename_i hcal;split at h
   ·rename_i T U x y hT hA;split at h
    ·rename_i E te tu he htu;obtain⟨ti,h1,h2,h3⟩:=CW he;split at h
     ·rename_i hc;split at h
      ·rename_i hk;exact W6 (str:=true) ho hcal tm mem nm (mZ hT) (mZ hA) h1 h2 h3 hc.1 hc.2 (by simpa using LB htu hk) h hsc
      ·rename_i E' hk;exact W6 (str:=false) ho hcal tm mem nm (mZ hT) (mZ hA) h1 h2 h3 hc.1 hc.2 (by simpa using⟨E',uY htu hk⟩) h hsc
      ·rename_i hk;split at h
       ·rename_i hz;exact zee ho hcal tm mem nm (mZ hT) (mZ hA) h1 h2 h3 htu hk (fun x hx=>by simpa using eF.1 hz x hx) h hsc
       ·cases h
      ·cases h
     ·cases h
    ·cases h
   ·cases h
  ·rename_i hcal;split at h
   ·rename_i T x hT hx;split at h
    ·exact zd6 ho hcal tm mem nm hT ‹_› hx h
    ·cases h
   ·cases h
  ·rename_i hcal;split at h
   ·rename_i T x hT hx;split at h
    ·rename_i E te he;obtain⟨ti,h1,h2,h3⟩:=CW he;split at h
     ·rename_i hz;exact zd5 ho hcal tm mem nm hT h1 h2 h3 (fun x hx=>by simpa using eF.1 hz x hx) hx h hsc
     ·cases h
    ·cases h
   ·cases h
  ·cases h
 ·cases h
noncomputable def NO (P:Program)(o:Oper)(tm:Nat->AV)(mem:Mem)(nm:Nat):Option (Prop×aP):=
 match o.op with
 |.mapEntry T m k=>match x8 P T with
  |some mi=>SJ mi.te mi.ka mi.ks mem nm (ev tm m) (ev tm k)
  |none=>none
 |.entryStore _ m s x=>OR mem (ev tm m) (ev tm s) (ev tm x)
 |_=>none
theorem zkI {P:Program}{o:Oper}{tm:Nat->AV}{mem:Mem}{nm:Nat}{sc:Prop}{e:aP}(h:NO P o tm mem nm=some (sc,e))(hsc:sc):bT P o tm (e.mr mem) nm e.res (e.mw mem):=by
 unfold NO at h;split at h
 ·split at h
  ·rename_i mi hmi;obtain⟨ti,h1,h2,h3,h4⟩:=QV hmi;exact zd3 ‹_› tm mem nm h1 h2 h3 h4 h hsc
  ·cases h
 ·exact zd2 ‹_› tm mem nm h
 ·cases h
noncomputable def J2 (P:Program)(o:Oper)(tm:Nat->AV)(mem:Mem)(nm:Nat):Option (Prop×aP):=
 match NP P o tm mem nm with
 |some r=>some r
 |none=>NO P o tm mem nm
theorem To {P:Program}{o:Oper}{tm:Nat->AV}{mem:Mem}{nm:Nat}{sc:Prop}{e:aP}(h:J2 P o tm mem nm=some (sc,e))(hsc:sc):bT P o tm (e.mr mem) nm e.res (e.mw mem):=by
 unfold J2 at h;split at h
 ·cases h;exact zkJ ‹_› hsc
 ·exact zkI h hsc
def L7 :AV->List Nat
 |.own b=>[b]
 |.sl b _ _ _=>[b]
 |_=>[]
def YT (tm:Nat->AV)(o:Oper):List Nat:=
 match o.op with
 |.buildSlice _ _ parts=>parts.toList.flatMap fun p=>L7 (ev tm p.2)
 |.mapUpdate _ _ _ x=>L7 (ev tm x)
 |.insert _ _ _ x=>L7 (ev tm x)
 |.entryStore _ _ _ x=>L7 (ev tm x)
 |_=>[]
noncomputable def NT (P:Program)(o:Oper)(tm:Nat->AV)(mem:Mem)(nm:Nat)(gv:List Nat):Option (Prop×aP):=
 match gv with
 |[]=>none
 |c::r=>match J2 P o (fun t=>fO (fun b=>!(c::r).contains b) mem 8 (tm t)) (pX (c::r) mem) nm with
  |some (sc,e)=>some (((c::r).all (fun b=>(mem b).isSome)=true)/\sc,⟨e.res,e.rd,e.wr++(c::r).map fun b=>(b,none)⟩)
  |none=>none
theorem zkL {P:Program}{o:Oper}{tm:Nat->AV}{mem:Mem}{nm:Nat}{gv:List Nat}{sc:Prop}{e:aP}(h:NT P o tm mem nm gv=some (sc,e))(hsc:sc):bT P o tm (e.mr mem) nm e.res (e.mw mem):=by
 unfold NT at h;split at h
 ·cases h
 ·rename_i c r;split at h
  ·rename_i sc' e' he;cases h;obtain⟨s1,s2⟩:=hsc;exact bT.YZ (c::r) (fun b hb=>eF.1 s1 b hb) (To he s2)
  ·cases h
noncomputable def NS (P:Program)(o:Oper)(tm:Nat->AV)(mem:Mem)(nm:Nat):Option (Prop×aP):=
 match o.op with
 |.call c=>match c.callee with
  |.builtin .len=>match c.argTypes[0]?,c.args[0]? with
   |some T,some x=>match yL P T,ev tm x with
    |some (_,_),.own b=>match mem b with
     |some (.eW ps _)=>some (True,⟨.d (.v (.int .i64 ps.length)),[b],[]⟩)
     |_=>none
    |_,_=>none
   |_,_=>none
  |.builtin .append=>match c.argTypes.toList,c.args.toList with
   |[T,U],[x,y]=>match yL P T,yL P U,ev tm y with
    |some (E,te),some (_,_),.own b=>match mem b with
     |some (.eW qs E')=>if E'=E/\0<te.bytes/\te.zero.length=te.sz/\te.sz=1 then match ev tm x with
       |.d (.v (.slice none 0 0))=>some (qs.length*te.bytes<=140737488355328,⟨.own nm,[b],[(nm,some (.eW qs E))]⟩)
       |.own a=>match mem a with
        |some (.eW ps E'')=>if E''=E then some ((ps.length+qs.length)*te.bytes<=140737488355328,⟨.own nm,[b],[(nm,some (.eW (ps++qs) E)),(a,none)]⟩)else none
        |_=>none
       |_=>none
      else none
     |_=>none
    |_,_,_=>none
   |_,_=>none
  |_=>none
 |.indexAddr T x i=>match yL P T,ev tm x,ev tm i with
  |some (_,te),.own b,.d (.v (.int .i64 n))=>match mem b with
   |some (.eW ps _)=>if 0<=n/\n<ps.length/\te.sz=1 then some (True,⟨.iF b 1 n.toNat 0,[b],[]⟩)else none
   |_=>none
  |_,_,_=>none
 |.load T x=>match aZ P T,ev tm x with
  |some ti,.iF b 1 j 0=>match mem b with
   |some (.eW ps _)=>match ps[j]? with
    |some p=>if ti.agg=false then some (True,⟨.ptr p 0,[b],[]⟩)else none
    |none=>none
   |_=>none
  |_,_=>none
 |.buildSlice T 1 parts=>match yL P T,parts.toList with
  |some (E,te),[(0,.tmp t)]=>match tm t with
   |.ptr p 0=>if te.sz=1/\te.zero.length=1 then some (True,⟨.own nm,[],[(nm,some (.eW [p] E))]⟩)else none
   |_=>none
  |_,_=>none
 |_=>none
theorem zkK {P:Program}{o:Oper}{tm:Nat->AV}{mem:Mem}{nm:Nat}{sc:Prop}{e:aP}(h:NS P o tm mem nm=some (sc,e))(hsc:sc):bT P o tm (e.mr mem) nm e.res (e.mw mem):=by
 unfold NS at h;split at h
 ·rename_i c ho;split at h
  ·rename_i hcal;split at h
   ·rename_i T x hT hx;split at h
    ·rename_i E te b hE hv;obtain⟨ti,h1,h2,h3⟩:=CW hE;split at h
     ·rename_i ps U hb;cases h;exact zdV ho hcal hT h1 h2 hx hv hb
     ·cases h
    ·cases h
   ·cases h
  ·rename_i hcal;split at h
   ·rename_i T U x y hT hA;split at h
    ·rename_i E te E2 te2 b hE hU hv2;obtain⟨ti,h1,h2,h3⟩:=CW hE;obtain⟨ti2,h4,h5,h6⟩:=CW hU;split at h
     ·rename_i qs E' hb;split at h
      ·rename_i hc;obtain⟨rfl,c1,c2,c3⟩:=hc;split at h
       ·rename_i hv;cases h;have:=Jr (o:=o) (nm:=nm) (a:=none) (ps:=[]) ho hcal (mZ hT) (mZ hA) h1 h2 h3 c1 c2 c3 ⟨_,uY h4 h5⟩ (.inl ⟨hv,rfl,rfl⟩) hv2 hb (by simpa using hsc);simpa using this
       ·rename_i a hv;split at h
        ·rename_i ps E'' ha;split at h
         ·rename_i he;subst he;cases h;have:=Jr (o:=o) (nm:=nm) (a:=some a) (ps:=ps) ho hcal (mZ hT) (mZ hA) h1 h2 h3 c1 c2 c3 ⟨_,uY h4 h5⟩ (.inr ⟨a,hv,rfl,ha⟩) hv2 hb hsc;simpa using this
         ·cases h
        ·cases h
       ·cases h
      ·cases h
     ·cases h
    ·cases h
   ·cases h
  ·cases h
 ·rename_i T x i ho;split at h
  ·rename_i E te b n hE hv hi;obtain⟨ti,h1,h2,h3⟩:=CW hE;split at h
   ·rename_i ps U hb;split at h
    ·rename_i hc;cases h;exact zdX (j:=n.toNat) ho h1 h2 h3 hc.2.2 hv (by rw[hi,Int.toNat_of_nonneg hc.1]) hb (by omega)
    ·cases h
   ·cases h
  ·cases h
 ·rename_i T x ho;split at h
  ·rename_i ti b j hti hv;split at h
   ·rename_i ps U hb;split at h
    ·rename_i p hp;split at h
     ·rename_i hg;cases h;exact zdU ho hti hg hv hb hp
     ·cases h
    ·cases h
   ·cases h
  ·cases h
 ·rename_i T parts ho;split at h
  ·rename_i E te t hE hp;obtain⟨ti,h1,h2,h3⟩:=CW hE;have hp':parts=#[(0,.tmp t)]:=by cases parts;simp at hp;simp[hp]
   subst hp';split at h
   ·rename_i p hv;split at h
    ·rename_i hc;cases h;exact zd8 ho h1 h2 h3 hc.1 hc.2 hv
    ·cases h
   ·cases h
  ·cases h
 ·cases h
noncomputable def xA (P:Program)(o:Oper)(tm:Nat->AV)(mem:Mem)(nm:Nat):Option (Prop×aP):=
 match NQ P o tm mem nm with
 |some e=>some (True,e)
 |none=>match J2 P o tm mem nm with
  |some r=>some r
  |none=>match NT P o tm mem nm (YT tm o)with
   |some r=>some r
   |none=>NS P o tm mem nm
theorem Tp {P:Program}{o:Oper}{tm:Nat->AV}{mem:Mem}{nm:Nat}{sc:Prop}{e:aP}(h:xA P o tm mem nm=some (sc,e))(hsc:sc):bT P o tm (e.mr mem) nm e.res (e.mw mem):=by
 unfold xA at h;split at h
 ·cases h;exact zkH ‹_›
 ·split at h
  ·cases h;exact To ‹_› hsc
  ·split at h
   ·cases h;exact zkL ‹_› hsc
   ·exact zkK h hsc
end Go.AI
namespace Go.AI
inductive It where
 |code (c:Code)
 |bQ (id:Nat)
 |stop (B:X->Prop)
 |ops (ops:Array Oper) (rest:List Oper) (i:Nat) (ft:List (List Nat×List Nat)) (draw:Bool)
 |br (v:AV) (a b:Code)
 |gd (v:AV) (wa:Bool) (ops:Array Oper) (o:Oper) (rest:List Oper) (i:Nat) (ft:List (List Nat×List Nat)) (draw:Bool)
 |uL (r:Option (Prop×aP)) (ops:Array Oper) (o:Oper) (rest:List Oper) (i:Nat) (ft:List (List Nat×List Nat)) (draw:Bool)
def MR (ops:Array Oper)(g:Nat)(tm:Nat->AV):Option Value:=
 match ops[g]? with
 |some p=>match p.dst with
  |some d=>match tm d with
   |.d (.v y)=>some y
   |_=>none
  |none=>none
 |none=>none
def pJ (ops:Array Oper)(g:Nat)(tm:Nat->AV):Option Bool:=
 match ops[g]? with
 |some p=>match p.dst with
  |some d=>match tm d with
   |.d (.v (.bool b))=>some b
   |_=>none
  |none=>none
 |none=>none
def mM (nt:Nat):Option Nat->Bool
 |some d=>decide (d<nt)
 |none=>true
def zE (id:Nat):List It->Option (List It)
 |[]=>none
 |.bQ i::k=>if i=id then some k else zE id k
 |_::k=>zE id k
def kJ :It->Bool
 |.ops _ _ _ _ _=>true
 |.br _ _ _=>true
 |.gd _ _ _ _ _ _ _ _=>true
 |.uL _ _ _ _ _ _ _=>true
 |_=>false
def clean (k:List It):Bool:=k.all fun i=>!kJ i
theorem A7 {id:Nat}:∀{k k':List It},clean k=true->zE id k=some k'->clean k'=true
 |[],_,_,h=>by cases h
 |.bQ i::k,k',hc,h=>by
  simp only[zE]at h;simp only[clean,AF,bN]at hc;split at h
  ·cases h;exact hc.2
  ·exact A7 hc.2 h
 |.code c::k,k',hc,h=>by simp only[clean,AF,bN]at hc;exact A7 hc.2 h
 |.stop c::k,k',hc,h=>by simp only[clean,AF,bN]at hc;exact A7 hc.2 h
 |.ops _ _ _ _ _::k,k',hc,h=>by simp only[clean,AF,bN]at hc;exact A7 hc.2 h
 |.br _ _ _::k,k',hc,h=>by simp only[clean,AF,bN]at hc;exact A7 hc.2 h
 |.gd _ _ _ _ _ _ _ _::k,k',hc,h=>by simp only[clean,AF,bN]at hc;exact A7 hc.2 h
 |.uL _ _ _ _ _ _ _::k,k',hc,h=>by simp only[clean,AF,bN]at hc;exact A7 hc.2 h
abbrev Fin :=Exit->Act->World->Prop
section
variable {ro : Option Nat} {dp : Nat} {J : Names -> (Nat -> Prop) -> World -> Prop}
def eP (ro:Option Nat)(dp:Nat)(J:Names->(Nat->Prop)->World->Prop)(E:Ctx):List It->Fin->Fin
 |[],Q,e,a,w=>Q e a w
 |.code c::k,Q,.normal,a,w=>c.wpIn (FW ro) dp E.P (eP ro dp J E k Q) a w
 |.code _::k,Q,e,a,w=>eP ro dp J E k Q e a w
 |.bQ id::k,Q,.exit i,a,w=>if i=id then eP ro dp J E k Q .normal a w else eP ro dp J E k Q (.exit i) a w
 |.bQ _::k,Q,e,a,w=>eP ro dp J E k Q e a w
 |.stop B::_,_,.normal,a,w=>∃x,Rel E x.den a w/\B x
 |.stop _::k,Q,e,a,w=>eP ro dp J E k Q e a w
 |.ops _ _ _ _ _::k,Q,e,a,w=>eP ro dp J E k Q e a w
 |.br _ _ _::k,Q,e,a,w=>eP ro dp J E k Q e a w
 |.gd _ _ _ _ _ _ _ _::k,Q,e,a,w=>eP ro dp J E k Q e a w
 |.uL _ _ _ _ _ _ _::k,Q,e,a,w=>eP ro dp J E k Q e a w
def tL (E:Ctx)(R:Exit->X->Prop):Fin:=fun e a w=>∃x,Rel E x.den a w/\R e x
def aQ (ro:Option Nat)(dp:Nat)(J:Names->(Nat->Prop)->World->Prop)(P:Program)(nt:Nat)(R:Exit->X->Prop)(body:Code)(k:List It)(x:X):Prop:=
 ∀E:Ctx,E.P=P->E.nt=nt->(∀s σ I a w,pM E s σ I a w->J σ I w)->∀a w,Rel E x.den a w->(Code.loop body).wpIn (FW ro) dp P (eP ro dp J E k (tL E R)) a w
inductive CI (ro:Option Nat)(dp:Nat)(J:Names->(Nat->Prop)->World->Prop)(P:Program)(nt:Nat)(R:Exit->X->Prop):List It->X->Prop
 |fin {x:X} (h:R .normal x):CI ro dp J P nt R [] x
 |stop {B:X->Prop} {k:List It} {x:X} (h:B x):CI ro dp J P nt R (.stop B::k) x
 |bQ {id:Nat} {k:List It} {x:X} (h:CI ro dp J P nt R k x):CI ro dp J P nt R (.bQ id::k) x
 |skip {k:List It} {x:X} (h:CI ro dp J P nt R k x):CI ro dp J P nt R (.code .skip::k) x
 |label {l:Nat} {k:List It} {x:X} (h:CI ro dp J P nt R k x):CI ro dp J P nt R (.code (.label l)::k) x
 |seq {c d:Code} {k:List It} {x:X} (h:CI ro dp J P nt R (.code c:: .code d::k) x):CI ro dp J P nt R (.code (.seq c d)::k) x
 |block {id:Nat} {c:Code} {k:List It} {x:X} (h:CI ro dp J P nt R (.code c:: .bQ id::k) x):CI ro dp J P nt R (.code (.block id c)::k) x
 |cond {o:Operand} {c d:Code} {k:List It} {x:X} {t:Bool} (ho:ev (dB x.tm) o=.d (.v (.bool t)))
   (h1:t=true->CI ro dp J P nt R (.code c::k) x) (h2:t=false->CI ro dp J P nt R (.code d::k) x):CI ro dp J P nt R (.code (.cond o c d)::k) x
 |Rj {o:Operand} {c d:Code} {k:List It} {x:X} (ho:ev (dB x.tm) o=.ab) (h1:CI ro dp J P nt R (.code c::k) x) (h2:CI ro dp J P nt R (.code d::k) x):CI ro dp J P nt R (.code (.cond o c d)::k) x
 |exit {id:Nat} {k k':List It} {x:X} (hp:zE id k=some k') (h:CI ro dp J P nt R k' x):CI ro dp J P nt R (.code (.exit id)::k) x
 |ret {k:List It} {x:X} (h:R .ret x):CI ro dp J P nt R (.code .ret::k) x
 |goto {l:Nat} {k:List It} {x:X} (h:R (.goto l) x):CI ro dp J P nt R (.code (.goto l)::k) x
 |Ja {ops:Array Oper} {o:Oper} {rest:List Oper} {i:Nat} {ft:List (List Nat×List Nat)} {k:List It} {x:X} (y:X) (ch:List PanicEntry) (hg:o.guard=none) (hpl:xW o=true)
   (he:∀(E:Ctx) (s:S) a w,E.P=P->E.nt=nt->s.tm=dB x.tm->s.mm=dM x.mm->(∀b,x.nx+64*i<=b->s.fr b)->Rel E s a w->∀(next:Act->World->Prop) (Q:Exit->Act->World->Prop),(∀a' w',Rel E y.den a' w'->Q (.panic ch) a' w')->o.wp P a w next Q)
   (h:R (.panic ch) y):CI ro dp J P nt R (.ops ops (o::rest) i ft false::k) x
 |loop {c:Code} {k:List It} {x:X} (h:aQ ro dp J P nt R c k x):CI ro dp J P nt R (.code (.loop c)::k) x
 |region {id:Nat} {ops:Array Oper} {draw:Bool} {k:List It} {x:X} (h:CI ro dp J P nt R (.ops ops ops.toList 0 [] draw::k) x):CI ro dp J P nt R (.code (.region id ops draw)::k) x
 |WX {ops:Array Oper} {i:Nat} {ft:List (List Nat×List Nat)} {draw:Bool} {k:List It} {x:X} (hd:draw=true->∃pre,JQ ops pre=true/\R7 pre ft=true)
   (h:CI ro dp J P nt R k ⟨x.tm,x.mm,x.nx+64*i⟩):CI ro dp J P nt R (.ops ops [] i ft draw::k) x
 |op {ops:Array Oper} {o:Oper} {rest:List Oper} {i:Nat} {ft:List (List Nat×List Nat)} {draw:Bool} {k:List It} {x:X} (e:aP) (hdst:mM nt o.dst=true)
   (hg:o.guard=none\/∃g wa,o.guard=some (g,wa)/\pJ ops g (dB x.tm)=some wa)
   (he:FB ro dp J P o (dB x.tm) (e.mr (dM x.mm)) (x.nx+64*i) e.res (e.mw (dM x.mm)))
   (h:CI ro dp J P nt R (.ops ops rest (i+1) (ft++[e.qP]) draw::k) (x.app o.dst e)):CI ro dp J P nt R (.ops ops (o::rest) i ft draw::k) x
 |P8 {ops:Array Oper} {o:Oper} {rest:List Oper} {i:Nat} {ft:List (List Nat×List Nat)} {draw:Bool} {k:List It} {x:X} {g:Nat} {wa:Bool} {y:Value} (hdst:mM nt o.dst=true)
   (hg:o.guard=some (g,wa)) (hb:MR ops g (dB x.tm)=some y) (hne:yb y≠some wa)
   (h:CI ro dp J P nt R (.ops ops rest (i+1) (ft++[([],[])]) draw::k) (x.app o.dst ⟨.d (.v undef),[],[]⟩)):CI ro dp J P nt R (.ops ops (o::rest) i ft draw::k) x
 |K1 {k:List It} {x y:X} (hk:clean k=true) (hs:∀(E:Ctx) a w,Rel E x.den a w->Rel E y.den a w) (h:CI ro dp J P nt R k y):CI ro dp J P nt R k x
 |cut {k:List It} {x:X} (hk:clean k=true) (h:∀E:Ctx,E.P=P->E.nt=nt->(∀s σ I a w,pM E s σ I a w->J σ I w)->∀a w,Rel E x.den a w->eP ro dp J E k (tL E R) .normal a w):CI ro dp J P nt R k x
theorem Al {E:Ctx}{Q:Fin}{id:Nat}{a:Act}{w:World}:∀{k k':List It},zE id k=some k'->eP ro dp J E k' Q .normal a w->eP ro dp J E k Q (.exit id) a w
 |[],_,h,_=>by cases h
 |i::k,k',h,hq=>by
  cases i with
  |bQ j=>
   simp only[zE]at h;simp only[eP];split at h
   ·rename_i e;cases h;subst e;simp;exact hq
   ·rename_i e;rw[aH fun x=>e x.symm];exact Al h hq
  |_=>simp only[zE]at h;simp only[eP];exact Al h hq
theorem Ti {E:Ctx}{Q:Fin}{a:Act}{w:World}:∀(k:List It),Q .ret a w->eP ro dp J E k Q .ret a w
 |[],h=>h
 |i::k,h=>by cases i<;>(simp only[eP];exact Ti k h)
theorem Tk {E:Ctx}{Q:Fin}{l:Nat}{a:Act}{w:World}:∀(k:List It),Q (.goto l) a w->eP ro dp J E k Q (.goto l) a w
 |[],h=>h
 |i::k,h=>by cases i<;>(simp only[eP];exact Tk k h)
theorem Tj {E:Ctx}{Q:Fin}{l:List PanicEntry}{a:Act}{w:World}:∀(k:List It),Q (.panic l) a w->eP ro dp J E k Q (.panic l) a w
 |[],h=>h
 |i::k,h=>by cases i<;>(simp only[eP];exact Tj k h)
theorem zdz {E:Ctx}{ops:Array Oper}{Q:Exit->Act->World->Prop}{effs:Nat->aP}{nx:Nat}{s:S}{n:Nat}(hn:n<ops.size)
  (hok:∀i o,i<n->ops[i]? =some o->yS ro dp J E ops o (after ops effs nx s (fun _=>true) i) (nx+64*i) (effs i)) (hfr:∀b,nx<=b->s.fr b) (hJ:∀s σ I a w,pM E s σ I a w->J σ I w)
  (hQ:∀a w,Rel E (after ops effs nx s (fun _=>true) n) a w->wpOpsIn (FW ro) dp E.P ops Q (List.range' n (ops.size-n)) a w):
  ∀m i,i+m=n->∀a w,Rel E (after ops effs nx s (fun _=>true) i) a w->wpOpsIn (FW ro) dp E.P ops Q (List.range' i (ops.size-i)) a w:=by
 intro m;induction m with
 |zero=>intro i hi a w hr;obtain rfl:i=n:=by omega
        exact hQ a w hr
 |succ m ih=>
  intro i hi a w hr;have ho:ops[i]? =some ops[i]:=tV (by omega);rw[show ops.size-i=(ops.size-(i+1))+1 by omega,T9,wpOpsIn_cons];refine UN ho (hok i _ (by omega) ho) (fun b hb=>?_) hr hJ (fun a' w' hr'=>ih (i+1) (by omega) a' w' ?_)
  ·rw[NM];exact⟨hfr b (by have:=hb.1;omega),fun j hj _ hj'=>by have:=hb.1;have:=hj'.2;omega⟩
  ·simp only[after,eA,ho];exact hr'
theorem zgF {ops:Array Oper}{g:Nat}{tm:Nat->AV}{y:Value}(h:MR ops g tm=some y):∃p d,ops[g]? =some p/\p.dst=some d/\tm d=.d (.v y):=by
 unfold MR at h;split at h
 ·rename_i p hp;split at h
  ·rename_i d hd;split at h
   ·rename_i z hz;cases h;exact⟨p,d,hp,hd,hz⟩
   ·cases h
  ·cases h
 ·cases h
theorem zgX {ops:Array Oper}{g:Nat}{tm:Nat->AV}{b:Bool}(h:pJ ops g tm=some b):∃p d,ops[g]? =some p/\p.dst=some d/\tm d=.d (.v (.bool b)):=by
 unfold pJ at h;split at h
 ·split at h
  ·split at h
   ·cases h;exact⟨_,_,‹_›,‹_›,‹_›⟩
   ·cases h
  ·cases h
 ·cases h
theorem Rel.fr {E:Ctx}{s s':S}{a:Act}{w:World}(h:Rel E s a w)(h1:s'.tm=s.tm)(h2:s'.mm=s.mm)(h3:∀b,s'.fr b->s.fr b):Rel E s' a w:=by
 obtain⟨σ,I,h⟩:=h;refine⟨σ,I,h.size,h.yN,by rw[h1];exact h.tm,by rw[h2];exact h.mm,fun b hb=>h.free b (h3 b hb),h.ib,h.i0,h.lQ,by rw[h2];exact h.kX,h.os,h.tape,h.output,h.hs,h.frame,h.keep,h.low⟩
theorem Th {ops:Array Oper}{nx:Nat}{s0:S}{tr tr':List aP}:∀(i:Nat),(∀j,j<i->tr.getD j ⟨.any,[],[]⟩=tr'.getD j ⟨.any,[],[]⟩)->
  after ops (fun j=>tr.getD j ⟨.any,[],[]⟩) nx s0 (fun _=>true) i=after ops (fun j=>tr'.getD j ⟨.any,[],[]⟩) nx s0 (fun _=>true) i
 |0,_=>rfl
 |i+1,h=>by
  simp only[after,eA,h i (by omega)];rw[Th i (fun j hj=>h j (by omega))]
def PG (ro:Option Nat)(dp:Nat)(J:Names->(Nat->Prop)->World->Prop)(E:Ctx)(ops:Array Oper)(s0:S)(nx:Nat)(tr:List aP)(i:Nat)(x:X):Prop:=
 tr.length=i/\x.nx=nx/\x.den.tm=(after ops (fun j=>tr.getD j ⟨.any,[],[]⟩) nx s0 (fun _=>true) i).tm/\
  x.den.mm=(after ops (fun j=>tr.getD j ⟨.any,[],[]⟩) nx s0 (fun _=>true) i).mm/\
  ∀j o,j<i->ops[j]? =some o->yS ro dp J E ops o (after ops (fun j=>tr.getD j ⟨.any,[],[]⟩) nx s0 (fun _=>true) j) (nx+64*j) (tr.getD j ⟨.any,[],[]⟩)
theorem PG.next {E:Ctx}{ops:Array Oper}{s0:S}{nx:Nat}{tr:List aP}{i:Nat}{x:X}(h:PG ro dp J E ops s0 nx tr i x){o:Oper}(ho:ops[i]? =some o){e:aP}
  (hok:yS ro dp J E ops o (after ops (fun j=>tr.getD j ⟨.any,[],[]⟩) nx s0 (fun _=>true) i) (nx+64*i) e):PG ro dp J E ops s0 nx (tr++[e]) (i+1) (x.app o.dst e):=by
 obtain⟨h1,h2,h3,h4,h5⟩:=h;have hold:∀j,j<i->(tr++[e]).getD j ⟨.any,[],[]⟩=tr.getD j ⟨.any,[],[]⟩:=fun j hj=>by
  simp[List.getD,jY (show j<tr.length by omega)]
 have hnew:(tr++[e]).getD i ⟨.any,[],[]⟩=e:=by
  simp[List.getD,<-h1]
 have ha:∀j,j<=i->after ops (fun j=>(tr++[e]).getD j ⟨.any,[],[]⟩) nx s0 (fun _=>true) j=after ops (fun j=>tr.getD j ⟨.any,[],[]⟩) nx s0 (fun _=>true) j:=
  fun j hj=>Th j (fun q hq=>hold q (by omega))
 refine⟨by simp[h1],h2,?_,?_,fun j o' hj hj'=>?_⟩
 ·rw[(X.Qx x o.dst e).1];simp only[after,eA,ha i (cM _),ho,FG,S.app,hnew,h3]
 ·rw[(X.Qx x o.dst e).2];simp only[after,eA,ha i (cM _),ho,FG,S.app,hnew,h4]
 ·rw[ha j (by omega)];by_cases e':j=i
  ·subst e';rw[ho]at hj';cases hj';rw[hnew];exact hok
  ·rw[hold j (by omega)];exact h5 j o' (by omega) hj'
theorem BL {P:Program}{nt:Nat}{R:Exit->X->Prop}(hm:P.follows .mixedOrders=true){k:List It}{x:X}(h:CI ro dp J P nt R k x):
  ∀E:Ctx,E.P=P->E.nt=nt->(∀s σ I a w,pM E s σ I a w->J σ I w)->
   ((clean k=true->∀a w,Rel E x.den a w->eP ro dp J E k (tL E R) .normal a w)/\
    ∀ops rest i ft draw k',k=.ops ops rest i ft draw::k'->clean k'=true->∀tr s0 nx,tr.map aP.qP=ft->ops.toList.drop i=rest->i<=ops.size->PG ro dp J E ops s0 nx tr i x->(∀b,nx<=b->s0.fr b)->
     ∀a w id,Rel E s0 a w->(Code.region id ops draw).wpIn (FW ro) dp P (eP ro dp J E k' (tL E R)) a w):=by
 induction h with
 |fin h=>exact fun E hP hn hJ=>⟨fun _ a w hr=>⟨_,hr,h⟩,fun _ _ _ _ _ _ h=>by cases h⟩
 |stop h=>exact fun E hP hn hJ=>⟨fun _ a w hr=>⟨_,hr,h⟩,fun _ _ _ _ _ _ h=>by cases h⟩
 |bQ h ih=>exact fun E hP hn hJ=>⟨fun hc a w hr=>(ih E hP hn hJ).1 (by simpa[clean,kJ]using hc) a w hr,fun _ _ _ _ _ _ h=>by cases h⟩
 |skip h ih=>exact fun E hP hn hJ=>⟨fun hc a w hr=>wpIn_skip ((ih E hP hn hJ).1 (by simpa[clean,kJ]using hc) a w hr),fun _ _ _ _ _ _ h=>by cases h⟩
 |label h ih=>exact fun E hP hn hJ=>⟨fun hc a w hr=>wpIn_label ((ih E hP hn hJ).1 (by simpa[clean,kJ]using hc) a w hr),fun _ _ _ _ _ _ h=>by cases h⟩
 | @seq c d k x h ih=>
   refine fun E hP hn hJ=>⟨fun hc a w hr=>wpIn_seq ?_,fun _ _ _ _ _ _ h=>by cases h⟩
   have:=(ih E hP hn hJ).1 (by simpa[clean,kJ]using hc) a w hr;simp only[eP]at this;refine BO this (fun e a w h=>?_);cases e<;>simp only[eP,Exit.then]at h⊢<;>exact h
 | @block id c k x h ih=>
   refine fun E hP hn hJ=>⟨fun hc a w hr=>wpIn_block ?_,fun _ _ _ _ _ _ h=>by cases h⟩
   have:=(ih E hP hn hJ).1 (by simpa[clean,kJ]using hc) a w hr;simp only[eP]at this;refine BO this (fun e a w h=>?_);cases e<;>simp only[eP,Exit.inBlock]at h⊢<;>exact h
 | @cond o c d k x t ho h1 h2 ih1 ih2=>
   refine fun E hP hn hJ=>⟨fun hc a w hr=>?_,fun _ _ _ _ _ _ h=>by cases h⟩
   have hv:a.eval o=.bool t:=by
    obtain⟨σ,I,hr⟩:=hr;exact TZ (ho▸dZ (tm:=x.den.tm) fun s e=>hr.tm s)
   cases t with
   |true=>exact wpIn_cond_true hv ((ih1 rfl E hP hn hJ).1 (by simpa[clean,kJ]using hc) a w hr)
   |false=>exact wpIn_cond_false hv ((ih2 rfl E hP hn hJ).1 (by simpa[clean,kJ]using hc) a w hr)
 | @Rj o c d k x ho h1 h2 ih1 ih2=>
   refine fun E hP hn hJ=>⟨fun hc a w hr=>?_,fun _ _ _ _ _ _ h=>by cases h⟩
   obtain⟨t,hv⟩:∃t,a.eval o=.bool t:=by
    obtain⟨σ,I,hr⟩:=hr;have:=dZ (σ:=σ) (I:=I) (w:=w) (tm:=x.den.tm) (a:=a) (x:=o) fun s e=>hr.tm s;rw[show ev x.den.tm o=.ab from ho]at this;generalize a.eval o=u at this;cases this with
    |ab t=>exact⟨t,rfl⟩
   cases t with
   |true=>exact wpIn_cond_true hv ((ih1 E hP hn hJ).1 (by simpa[clean,kJ]using hc) a w hr)
   |false=>exact wpIn_cond_false hv ((ih2 E hP hn hJ).1 (by simpa[clean,kJ]using hc) a w hr)
 |exit hp h ih=>exact fun E hP hn hJ=>⟨fun hc a w hr=>wpIn_exit (Al hp ((ih E hP hn hJ).1 (A7 (by simpa[clean,kJ]using hc) hp) a w hr)),fun _ _ _ _ _ _ h=>by cases h⟩
 |ret h=>exact fun E hP hn hJ=>⟨fun _ a w hr=>wpIn_ret (by exact Ti _ ⟨_,hr,h⟩),fun _ _ _ _ _ _ h=>by cases h⟩
 |loop h=>exact fun E hP hn hJ=>⟨fun _ a w hr=>by subst hP;exact h E rfl hn hJ a w hr,fun _ _ _ _ _ _ h=>by cases h⟩
 | @region id ops draw k x h ih=>
   refine fun E hP hn hJ=>⟨fun hc a w hr=>?_,fun _ _ _ _ _ _ h=>by cases h⟩
   have:=(ih E hP hn hJ).2 ops ops.toList 0 [] draw k rfl (by simpa[clean,kJ]using hc) [] x.den x.nx rfl rfl (DI _) ⟨rfl,rfl,rfl,rfl,fun j o hj=>by omega⟩ (fun b hb=>hb) a w id hr;subst hP;exact this
 | @WX ops i ft draw k x hd h ih=>
   refine fun E hP hn hJ=>⟨fun hc=>by simp[clean,kJ]at hc,fun ops' rest' i' ft' draw' k' he hc tr s0 nx hft hdrop hle hst hfr a w id hr=>?_⟩
   cases he;subst hft;have hi:i=ops.size:=by
    have:=dH List.length hdrop;simp at this;omega
   subst hi;obtain⟨g1,g2,g3,g4,g5⟩:=hst;subst hP;have hok:∀j o,ops[j]? =some o->yS ro dp J E ops o (after ops (fun j=>tr.getD j ⟨.any,[],[]⟩) nx s0 (fun _=>true) j) (nx+64*j) (tr.getD j ⟨.any,[],[]⟩):=
    fun j o hj=>g5 j o (qX.1 hj).1 hj
   have hQ:∀a w,Rel E (after ops (fun j=>tr.getD j ⟨.any,[],[]⟩) nx s0 (fun _=>true) ops.size) a w->eP ro dp J E k (tL E R) .normal a w:=by
    intro a w hr';refine(ih E rfl hn hJ).1 hc a w (hr'.fr g3 g4 (fun b hb=>?_));rw[NM];have hb':x.nx+64*ops.size<=b:=hb;rw[g2]at hb';exact⟨hfr b (by omega),fun j hj _ hf=>by have:=hf.2;omega⟩
   cases draw with
   |false=>exact zcj hok hfr hJ hr hQ
   |true=>
    obtain⟨pre,q1,q2⟩:=hd rfl;exact zck hm _ (zhQ q1) (zhP q1 g1 q2) hok hfr hJ hr hQ
 | @op ops o rest i ft draw k x e hdst hg he h ih=>
   refine fun E hP hn hJ=>⟨fun hc=>by simp[clean,kJ]at hc,fun ops' rest' i' ft' draw' k' hee hc tr s0 nx hft hdrop hle hst hfr a w id hr=>?_⟩
   cases hee;subst hft;have hlt:i<ops.size:=by
    have:=dH List.length hdrop;simp at this;omega
   have ho:ops[i]? =some o:=by
    have:(ops.toList.drop i)[0]? =some o:=by rw[hdrop];rfl
    simpa using this
   have hdrop':ops.toList.drop (i+1)=rest:=by
    have:=dH List.tail hdrop;simpa[List.tail_drop]using this
   refine(ih E hP hn hJ).2 ops rest (i+1) _ draw k rfl hc (tr++[e]) s0 nx (by simp) hdrop' hlt (hst.next ho ?_) hfr a w id hr;subst hP;subst hn;obtain⟨g1,g2,g3,g4,g5⟩:=hst;refine⟨fun d hd=>by simpa[mM,hd]using hdst,?_⟩;rw[<-g3,<-g4,<-g2];rcases hg with hg|⟨g,wa,hg,hb⟩
   ·exact .inl ⟨hg,he⟩
   ·obtain⟨p,d,p1,p2,p3⟩:=zgX hb;exact .inr ⟨g,wa,p,d,.bool wa,hg,p1,p2,p3,.inl ⟨rfl,he⟩⟩
 | @P8 ops o rest i ft draw k x g wa y hdst hg hb hne h ih=>
   refine fun E hP hn hJ=>⟨fun hc=>by simp[clean,kJ]at hc,fun ops' rest' i' ft' draw' k' hee hc tr s0 nx hft hdrop hle hst hfr a w id hr=>?_⟩
   cases hee;subst hft;have hlt:i<ops.size:=by
    have:=dH List.length hdrop;simp at this;omega
   have ho:ops[i]? =some o:=by
    have:(ops.toList.drop i)[0]? =some o:=by rw[hdrop];rfl
    simpa using this
   have hdrop':ops.toList.drop (i+1)=rest:=by
    have:=dH List.tail hdrop;simpa[List.tail_drop]using this
   refine(ih E hP hn hJ).2 ops rest (i+1) _ draw k rfl hc (tr++[⟨.d (.v undef),[],[]⟩]) s0 nx (by simp[aP.qP]) hdrop' hlt (hst.next ho ?_) hfr a w id hr;subst hP;subst hn;obtain⟨g1,g2,g3,g4,g5⟩:=hst;refine⟨fun d hd=>by simpa[mM,hd]using hdst,?_⟩;obtain⟨p,d,p1,p2,p3⟩:=zgF hb;refine .inr ⟨g,wa,p,d,y,hg,p1,p2,?_,.inr ⟨hne,rfl⟩⟩;rw[<-g3];exact p3
 |goto h=>exact fun E hP hn hJ=>⟨fun _ a w hr=>wpIn_goto (by exact Tk _ ⟨_,hr,h⟩),fun _ _ _ _ _ _ h=>by cases h⟩
 | @Ja ops o rest i ft k x y ch hg hpl he h=>
   refine fun E hP hn hJ=>⟨fun hc=>by simp[clean,kJ]at hc,fun ops' rest' i' ft' draw' k' hee hc tr s0 nx hft hdrop hle hst hfr a w id hr=>?_⟩
   cases hee;subst hft;have hlt:i<ops.size:=by
    have:=dH List.length hdrop;simp at this;omega
   have ho:ops[i]? =some o:=by
    have:(ops.toList.drop i)[0]? =some o:=by rw[hdrop];rfl
    simpa using this
   obtain⟨g1,g2,g3,g4,g5⟩:=hst;subst hP;refine wpIn_region ?_;rw[List.range_eq_range'];refine zdz hlt g5 hfr hJ (fun a w hr'=>?_) i 0 (by omega) a w hr;rw[show ops.size-i=(ops.size-(i+1))+1 by omega,T9,wpOpsIn_cons];unfold wpOpIn;have hw:Region.wanted o (yielded ops a.tmps)=true:=by simp[Region.wanted,hg]
   simp only[ho,hw,eA];refine UM hpl (he E _ a w rfl hn g3.symm g4.symm (fun b hb=>?_) hr' _ _ fun a' w' h'=>Tj k ⟨y,h',h⟩);rw[NM];exact⟨hfr b (by omega),fun j hj _ hf=>by have:=hf.2;omega⟩
 |K1 hk hs h ih=>
  refine fun E hP hn hJ=>⟨fun hc a w hr=>(ih E hP hn hJ).1 hc a w (hs E a w hr),fun ops' rest' i' tr' draw' k' hee=>?_⟩;subst hee;simp[clean,kJ]at hk
 |cut hk h=>
  refine fun E hP hn hJ=>⟨fun hc a w hr=>h E hP hn hJ a w hr,fun ops' rest' i' tr' draw' k' hee=>?_⟩;subst hee;simp[clean,kJ]at hk
end
def nY (ops:Array Oper)(ft:List (List Nat×List Nat)):Prop:=JQ ops (Hs ops.toList)=true/\R7 (Hs ops.toList) ft=true
instance (ops:Array Oper) (ft:List (List Nat×List Nat)):Decidable (nY ops ft):=inferInstanceAs (Decidable (_/\_))
def E3 (ops:Array Oper)(g:Nat)(tm:Nat->AV):AV:=
 match ops[g]? with
 |some p=>match p.dst with
  |some d=>tm d
  |none=>.any
 |none=>.any
theorem YS {ops:Array Oper}{g:Nat}{tm:Nat->AV}{y:Value}(h:E3 ops g tm=.d (.v y)):MR ops g tm=some y:=by
 unfold E3 at h;unfold MR;split at h
 ·split at h
  ·simp[*]
  ·cases h
 ·cases h
theorem Pq {ops:Array Oper}{g:Nat}{tm:Nat->AV}{b:Bool}(h:E3 ops g tm=.d (.v (.bool b))):pJ ops g tm=some b:=by
 unfold E3 at h;unfold pJ;split at h
 ·split at h
  ·simp[*]
  ·cases h
 ·cases h
def JH :List It->Bool
 |[]=>true
 |_::k=>clean k
theorem GV :∀{k:List It},clean k=true->JH k=true
 |[],_=>rfl
 |_::k,h=>by simp only[clean,AF,bN]at h;exact h.2
section
variable {ro : Option Nat} {dp : Nat} {J : Names -> (Nat -> Prop) -> World -> Prop}
noncomputable def cJ (ro:Option Nat)(dp:Nat)(J:Names->(Nat->Prop)->World->Prop)(P:Program)(nt:Nat)(R:Exit->X->Prop)(st:Nat):Nat->List It->X->Prop
 |0,_,_=>False
 |_+1,[],x=>R .normal x
 |_+1,.stop B::_,x=>B x
 |n+1,.bQ _::k,x=>cJ ro dp J P nt R st n k x
 |n+1,.br v a b::k,x=>match v with
  |.d (.v (.bool true))=>cJ ro dp J P nt R st n (.code a::k) x
  |.d (.v (.bool false))=>cJ ro dp J P nt R st n (.code b::k) x
  |.ab=>cJ ro dp J P nt R st n (.code a::k) x/\cJ ro dp J P nt R st n (.code b::k) x
  |_=>False
 |n+1,.ops ops rest i ft d::k,x=>match rest with
  |[]=>if d then(nY ops ft/\cJ ro dp J P nt R st n k ⟨x.tm,x.mm,x.nx+64*i⟩)else cJ ro dp J P nt R st n k ⟨x.tm,x.mm,x.nx+64*i⟩
  |o::rest=>match o.guard with
   |none=>cJ ro dp J P nt R st n (.uL (xA P o (dB x.tm) (dM x.mm) (x.nx+64*i)) ops o rest i ft d::k) x
   |some (g,wa)=>cJ ro dp J P nt R st n (.gd (E3 ops g (dB x.tm)) wa ops o rest i ft d::k) x
 |n+1,.gd v wa ops o rest i ft d::k,x=>match v with
  |.d (.v (.bool true))=>if wa then cJ ro dp J P nt R st n (.uL (xA P o (dB x.tm) (dM x.mm) (x.nx+64*i)) ops o rest i ft d::k) x
   else(mM nt o.dst=true/\cJ ro dp J P nt R st n (.ops ops rest (i+1) (ft++[([],[])]) d::k) (x.app o.dst ⟨.d (.v undef),[],[]⟩))
  |.d (.v (.bool false))=>if wa then(mM nt o.dst=true/\cJ ro dp J P nt R st n (.ops ops rest (i+1) (ft++[([],[])]) d::k) (x.app o.dst ⟨.d (.v undef),[],[]⟩))
   else cJ ro dp J P nt R st n (.uL (xA P o (dB x.tm) (dM x.mm) (x.nx+64*i)) ops o rest i ft d::k) x
  |.d (.v (.tuple _))=>mM nt o.dst=true/\cJ ro dp J P nt R st n (.ops ops rest (i+1) (ft++[([],[])]) d::k) (x.app o.dst ⟨.d (.v undef),[],[]⟩)
  |_=>False
 |n+1,.uL r ops o rest i ft d::k,x=>match r with
  |some (sc,e)=>sc/\mM nt o.dst=true/\cJ ro dp J P nt R st n (.ops ops rest (i+1) (ft++[e.qP]) d::k) (x.app o.dst e)
  |none=>CI ro dp J P nt R (.ops ops (o::rest) i ft d::k) x
 |n+1,.code c::k,x=>match c with
  |.skip=>cJ ro dp J P nt R st n k x
  |.label _=>cJ ro dp J P nt R st n k x
  |.seq a b=>cJ ro dp J P nt R st n (.code a:: .code b::k) x
  |.block id a=>cJ ro dp J P nt R st n (.code a:: .bQ id::k) x
  |.cond o a b=>cJ ro dp J P nt R st n (.br (ev (dB x.tm) o) a b::k) x
  |.region id ops d=>if id=st then CI ro dp J P nt R (.code (.region id ops d)::k) x else cJ ro dp J P nt R st n (.ops ops ops.toList 0 [] d::k) x
  |.ret=>R .ret x
  |.exit id=>match zE id k with
   |some k'=>cJ ro dp J P nt R st n k' x
   |none=>False
  |.loop a=>aQ ro dp J P nt R a k x
  |_=>False
def On (ro:Option Nat)(dp:Nat)(J:Names->(Nat->Prop)->World->Prop)(P:Program)(nt:Nat)(R:Exit->X->Prop)(x:X):List It->Prop
 |.br v a b::k=>∀o,ev (dB x.tm) o=v->CI ro dp J P nt R (.code (.cond o a b)::k) x
 |.gd v wa ops o rest i ft d::k=>∀g,o.guard=some (g,wa)->E3 ops g (dB x.tm)=v->CI ro dp J P nt R (.ops ops (o::rest) i ft d::k) x
 |.uL r ops o rest i ft d::k=>(o.guard=none\/∃g wa,o.guard=some (g,wa)/\pJ ops g (dB x.tm)=some wa)->xA P o (dB x.tm) (dM x.mm) (x.nx+64*i)=r->CI ro dp J P nt R (.ops ops (o::rest) i ft d::k) x
 |k=>CI ro dp J P nt R k x
theorem Tq {P:Program}{o:Oper}{tm:Nat->AV}{mem:Mem}{nx:Nat}{r:Prop×aP}(h:xA P o tm mem nx=some r):xW o=true:=by
 unfold xW;split
 ·rename_i c hc;simp[xA,NQ,NP,NO,J2,NT,NS,hc]at h;cases hg:YT tm o<;>simp[hg]at h
 ·rfl
theorem HE {P:Program}{nt:Nat}{R:Exit->X->Prop}{x:X}:∀{k:List It},clean k=true->On ro dp J P nt R x k->CI ro dp J P nt R k x
 |[],_,h=>h
 |.stop _::_,_,h=>h
 |.bQ _::_,_,h=>h
 |.code _::_,_,h=>h
 |.ops _ _ _ _ _::_,_,h=>h
 |.br _ _ _::_,h,_=>by simp[clean,kJ]at h
 |.gd _ _ _ _ _ _ _ _::_,h,_=>by simp[clean,kJ]at h
 |.uL _ _ _ _ _ _ _::_,h,_=>by simp[clean,kJ]at h
theorem Gf {P:Program}{nt:Nat}{R:Exit->X->Prop}{st:Nat}:∀(n:Nat) (k:List It) (x:X),JH k=true->cJ ro dp J P nt R st n k x->On ro dp J P nt R x k:=by
 intro n;induction n with
 |zero=>intro k x _ h;exact h.elim
 |succ n ih=>
  intro k x hg h
  match k,hg,h with
  |[],_,h=>exact .fin h
  |.stop B::k,_,h=>exact .stop h
  |.bQ id::k,hg,h=>exact .bQ (HE hg (ih k x (GV hg) h))
  |.br v a b::k,hg,h=>
   intro o ho;simp only[cJ]at h;split at h
   ·exact .cond ho (fun _=>ih _ x (by exact hg) h) (fun e=>by cases e)
   ·exact .cond ho (fun e=>by cases e) (fun _=>ih _ x (by exact hg) h)
   ·exact .Rj ho (ih _ x (by exact hg) h.1) (ih _ x (by exact hg) h.2)
   ·exact h.elim
  |.ops ops rest i ft d::k,hg,h=>
   simp only[cJ]at h;split at h
   ·split at h
    ·exact .WX (fun _=>⟨_,h.1.1,h.1.2⟩) (HE hg (ih k _ (GV hg) h.2))
    ·rename_i hd;exact .WX (fun e=>absurd e (by simpa using hd)) (HE hg (ih k _ (GV hg) h))
   ·split at h
    ·exact ih _ x (by exact hg) h (.inl ‹_›) rfl
    ·exact ih _ x (by exact hg) h _ ‹_› rfl
  |.gd v wa ops o rest i ft d::k,hg,h=>
   intro g hgd hv;simp only[cJ]at h;split at h
   ·split at h
    ·rename_i hwa;exact ih _ x (by exact hg) h (.inr ⟨g,wa,hgd,by rw[Pq hv,hwa]⟩) rfl
    ·rename_i hwa;exact .P8 h.1 hgd (YS hv) (by intro e;simp only[yb,lS]at e;exact hwa e.symm) (ih _ _ (by exact hg) h.2)
   ·split at h
    ·rename_i hwa;exact .P8 h.1 hgd (YS hv) (by intro e;rw[hwa]at e;cases e) (ih _ _ (by exact hg) h.2)
    ·rename_i hwa;refine ih _ x (by exact hg) h (.inr ⟨g,wa,hgd,?_⟩) rfl;rw[Pq hv];cases wa
     ·rfl
     ·exact absurd rfl hwa
   ·exact .P8 h.1 hgd (YS hv) (by intro e;cases e) (ih _ _ (by exact hg) h.2)
   ·exact h.elim
  |.uL r ops o rest i ft d::k,hg,h=>
   intro hgd hr;simp only[cJ]at h;split at h
   ·exact .op _ h.2.1 hgd ((Tp hr h.1).qC (Tq hr)) (ih _ _ (by exact hg) h.2.2)
   ·exact h
  |.code c::k,hg,h=>
   have hck:∀c',clean (.code c'::k)=true:=fun c'=>by simp only[clean,AF,kJ,OA,tU];exact hg
   simp only[cJ]at h;split at h
   ·exact .skip (HE hg (ih k x (GV hg) h))
   ·exact .label (HE hg (ih k x (GV hg) h))
   ·exact .seq (ih _ x (by exact hck _) h)
   ·exact .block (ih _ x (by simp only[JH,clean,AF,kJ,OA,tU];exact hg) h)
   ·rename_i o a b;exact ih _ x (by exact hg) h o rfl
   ·split at h
    ·exact h
    ·exact .region (ih _ x (by exact hg) h)
   ·exact .ret h
   ·split at h
    ·rename_i k' hp;exact .exit hp (HE (A7 hg hp) (ih _ x (GV (A7 hg hp)) h))
    ·exact h.elim
   ·exact .loop h
   ·exact h.elim
theorem CI.run {P:Program}{nt:Nat}{R:Exit->X->Prop}(st n:Nat){k:List It}{x:X}(hc:clean k=true)(h:AI.cJ ro dp J P nt R st n k x):CI ro dp J P nt R k x:=
 HE hc (Gf n k x (GV hc) h)
theorem CI.CD {P:Program}{nt:Nat}{R:Exit->X->Prop}(st n:Nat){ops:Array Oper}{rest:List Oper}{i:Nat}{ft:List (List Nat×List Nat)}{d:Bool}{k:List It}{x:X}(hc:clean k=true)
  (h:AI.cJ ro dp J P nt R st n (.ops ops rest i ft d::k) x):CI ro dp J P nt R (.ops ops rest i ft d::k) x:=
 Gf n _ x (by exact hc) h
end
def fX (p:Nat->Bool):AV->Bool
 |.d _=>true
 |.any=>true
 |.ab=>true
 |.ptr b _=>p b
 |.own b=>p b
 |.iF b _ _ _=>p b
 |.sl b _ _ _=>p b
 |.agg cs=>mH cs
 |.bI cs=>mH cs
 |.fn _ a b=>mH a&&mH b
 |.gK _ x=>fX p x
where mH:List AV->Bool
 |[]=>true
 |x::r=>fX p x&&mH r
def aW (p:Nat->Bool):bC->Bool
 |.cells cs _=>fX.mH p cs
 |.oW _ _ _ _ _ c=>p c
 |.eW ps _=>ps.all p
 |_=>true
theorem yC {p:Nat->Bool}:∀{l:List AV},fX.mH p l=true->∀(i:Nat) c,l[i]? =some c->fX p c=true
 |[],_,i,c,h=>by simp at h
 |x::r,hn,i,c,h=>by
  simp only[fX.mH,bN]at hn;cases i with
  |zero=>simp at h;rw[<-h];exact hn.1
  |succ i=>exact yC hn.2 i c (by simpa using h)
def bC.cF (g:Nat->Nat):bC->bC
 |.cells cs T=>.cells (cs.map (AV.cF g)) T
 |.oW ka ks va look kc c=>.oW ka ks va look kc (g c)
 |.eW ps T=>.eW (ps.map g) T
 |k=>k
section
variable {σ σ0 : Names} {I : Nat -> Prop} {w : World} {g : Nat -> Nat} {p : Nat -> Bool}
theorem Tw (hs:∀b,p b=true->∀x,σ0 b=some x->σ (g b)=some x){a:AV}{v:Value}(h:RV σ0 I w a v)(hn:fX p a=true):RV σ I w (a.cF g) v:=by
 induction h with
 |d h=>simp only[AV.cF];exact .d h
 |any y=>simp only[AV.cF];exact .any y
 |ab t=>simp only[AV.cF];exact .ab t
 |ptr h=>simp only[AV.cF];exact .ptr (hs _ hn _ h)
 |own h h1=>simp only[AV.cF];exact .own (hs _ hn _ h) h1
 |iF h=>simp only[AV.cF];exact .iF (hs _ hn _ h)
 |sl h hs'=>simp only[AV.cF];exact .sl (hs _ hn _ h) hs'
 |agg hl _ ih=>
  simp only[AV.cF];refine .agg (by simpa using hl) (fun i c x h1 h2=>?_);simp only[iJ]at h1;obtain⟨c',hc',rfl⟩:=qA.1 h1;exact ih i c' x hc' h2 (yC hn i c' hc')
 |bI hl _ ih=>
  simp only[AV.cF];refine .bI (by simpa using hl) (fun i c x h1 h2=>?_);simp only[iJ]at h1;obtain⟨c',hc',rfl⟩:=qA.1 h1;exact ih i c' x hc' h2 (yC hn i c' hc')
 |fn hx hy _ _ i1 i2=>
  simp only[AV.cF];simp only[fX,bN]at hn;refine .fn (by simpa using hx) (by simpa using hy) (fun i c x h1 h2=>?_) (fun i c x h1 h2=>?_)
  ·simp only[iJ]at h1;obtain⟨c',hc',rfl⟩:=qA.1 h1;exact i1 i c' x hc' h2 (yC hn.1 i c' hc')
  ·simp only[iJ]at h1;obtain⟨c',hc',rfl⟩:=qA.1 h1;exact i2 i c' x hc' h2 (yC hn.2 i c' hc')
 |gK _ ih=>simp only[AV.cF];exact .gK (ih hn)
theorem NW (hs:∀b,p b=true->∀x,σ (g b)=some x->σ0 b=some x){A:AV}{v:Value}(h:RV σ I w A v):∀{a:AV},A=a.cF g->fX p a=true->RV σ0 I w a v:=by
 induction h with
 |d h=>intro a e hn;cases a<;>simp[AV.cF]at e;subst e;exact .d h
 |any y=>intro a e hn;cases a<;>simp[AV.cF]at e;exact .any y
 |ab t=>intro a e hn;cases a<;>simp[AV.cF]at e;exact .ab t
 |ptr h=>intro a e hn;cases a<;>simp[AV.cF]at e;obtain⟨rfl,rfl⟩:=e;exact .ptr (hs _ hn _ h)
 |own h h1=>intro a e hn;cases a<;>simp[AV.cF]at e;subst e;exact .own (hs _ hn _ h) h1
 |iF h=>intro a e hn;cases a<;>simp[AV.cF]at e;obtain⟨rfl,rfl,rfl,rfl⟩:=e;exact .iF (hs _ hn _ h)
 |sl h hs'=>intro a e hn;cases a<;>simp[AV.cF]at e;obtain⟨rfl,rfl,rfl,rfl⟩:=e;exact .sl (hs _ hn _ h) hs'
 |agg hl _ ih=>
  intro a e hn;cases a<;>simp[AV.cF]at e;subst e;refine .agg (by simpa using hl) (fun i c x h1 h2=>?_);exact ih i (c.cF g) x (by simp[h1]) h2 rfl (yC hn i c h1)
 |bI hl _ ih=>
  intro a e hn;cases a<;>simp[AV.cF]at e;subst e;refine .bI (by simpa using hl) (fun i c x h1 h2=>?_);exact ih i (c.cF g) x (by simp[h1]) h2 rfl (yC hn i c h1)
 |fn hx hy _ _ i1 i2=>
  intro a e hn;cases a<;>simp[AV.cF]at e;obtain⟨rfl,rfl,rfl⟩:=e;simp only[fX,bN]at hn;refine .fn (by simpa using hx) (by simpa using hy) (fun i c x h1 h2=>?_) (fun i c x h1 h2=>?_)
  ·exact i1 i (c.cF g) x (by simp[h1]) h2 rfl (yC hn.1 i c h1)
  ·exact i2 i (c.cF g) x (by simp[h1]) h2 rfl (yC hn.2 i c h1)
 |gK _ ih=>
  intro a e hn;cases a<;>simp[AV.cF]at e;obtain⟨rfl,rfl⟩:=e;exact .gK (ih rfl hn)
theorem zkU (hs:∀b,p b=true->∀x,σ0 b=some x->σ (g b)=some x){k:bC}{v:Value}(h:RB σ0 I w k v)(hn:aW p k=true):RB σ I w (k.cF g) v:=by
 cases h with
 |cells hw hl hr=>
  refine .cells hw (by simpa using hl) (fun i c x h1 h2=>?_);simp only[iJ]at h1;obtain⟨c',hc',rfl⟩:=qA.1 h1;exact Tw hs (hr i c' x hc' h2) (yC hn i c' hc')
 |none=>exact .none
 |emp a=>exact .emp a
 |grow h1 h2 h3 h4 h5 h6=>exact .grow h1 h2 h3 h4 h5 h6
 |map keys vals h1 h0 h2 h3 h4 h5=>exact .map keys vals h1 h0 h2 h3 h4 h5
 |oW keys vals h1 hst h0 hkc hfk h2 h3 h4 h5=>exact .oW keys vals h1 (hs _ hn _ hst) h0 hkc hfk h2 h3 h4 h5
 |iter h1 h2=>exact .iter h1 h2
 |zN=>exact .zN
 |yF a=>exact .yF a
 | @eW ps T n cap arr h1 h2 h3 h4 h5=>
   have:=RB.eW (σ:=σ) (I:=I) (ps:=ps.map g) (T:=T) h1 h2 (by simpa using h3) h4 (fun i b hi=>by
    rw[iJ]at hi;obtain⟨b',hb',rfl⟩:=qA.1 hi;obtain⟨m,q1,q2⟩:=h5 i b' hb';exact⟨m,hs _ (eF.1 hn b' (eH hb')) _ q1,q2⟩)
   rwa[vZ]at this
theorem J8 (hs:∀b,p b=true->∀x,σ (g b)=some x->σ0 b=some x){k:bC}{v:Value}(h:RB σ I w (k.cF g) v)(hn:aW p k=true):RB σ0 I w k v:=by
 cases k with
 |cells cs T=>
  cases h with
  |cells hw hl hr=>
   refine .cells hw (by simpa using hl) (fun i c x h1 h2=>?_);exact NW hs (hr i (c.cF g) x (by simp[h1]) h2) rfl (yC hn i c h1)
 |grow sz es T=>
  cases h with
  |none=>exact .none
  |emp a=>exact .emp a
  |grow h1 h2 h3 h4 h5 h6=>exact .grow h1 h2 h3 h4 h5 h6
 |map ka ks va look=>
  cases h with
  |map keys vals h1 h0 h2 h3 h4 h5=>exact .map keys vals h1 h0 h2 h3 h4 h5
 |oW ka ks va look kc c=>
  cases h with
  |oW keys vals h1 hst h0 hkc hfk h2 h3 h4 h5=>exact .oW keys vals h1 (hs _ hn _ hst) h0 hkc hfk h2 h3 h4 h5
 |iter s pos=>
  cases h with
  |iter h1 h2=>exact .iter h1 h2
 |eW ps T=>
  change RB σ I w (.eW (ps.map g) T) v at h;generalize hq:ps.map g=qs at h;cases h with
  |zN=>
   obtain rfl:ps=[]:=List.map_eq_nil_iff.1 hq;exact .zN
  |yF a=>
   obtain rfl:ps=[]:=List.map_eq_nil_iff.1 hq;exact .yF a
  |eW h1 h2 h3 h4 h5=>
   subst hq;rw[vZ]at h3⊢;refine .eW h1 h2 h3 h4 (fun i b hi=>?_);obtain⟨m,q1,q2⟩:=h5 i (g b) (by rw[iJ,hi];rfl);exact⟨m,hs _ (eF.1 hn b (eH hi)) _ q1,q2⟩
end
def bE :List (Nat×bC)->Nat->Option bC
 |[],_=>none
 | (c,k)::r,b=>if c=b then some k else bE r b
theorem nV {l:List (Nat×bC)}{b:Nat}{k:bC}(h:bE l b=some k):(b,k)∈l:=by
 induction l with
 |nil=>cases h
 |cons p l ih=>
  obtain⟨c,q⟩:=p;simp only[bE]at h;split at h
  ·rename_i e;cases h;subst e;simp
  ·simp[ih h]
def NZ (G:(Nat->Prop)->World->Prop)(fin:Value->Ending)(P:Program)(f:FuncId)(args:List AV)(mr m:List (Nat×bC))(res:AV)(m':List (Nat×bC)):Prop:=
 ∀(σ:Names) (I:Nat->Prop) (w:World) (vs:List Value),G I w->(∀n,I n->n<w.heap.size)->vs.length=args.length->
  (∀(i:Nat) c x,args[i]? =some c->vs[i]? =some x->RV σ I w c x)->RM σ I w (bE (mr++m))->(∀b,64<=b->σ b=none)->
  Calls P f vs.toArray w fun e w'=>∃v σ' I',e=fin v/\fK σ I w (bE (mr++m)) 64 σ' I' w' (bE (mr++m'))/\RV σ' I' w' res v
def Ct (P:Program)(f:FuncId)(args:List AV)(mr m:List (Nat×bC))(res:AV)(m':List (Nat×bC)):Prop:=
 ∀(σ:Names) (I:Nat->Prop) (w:World) (vs:List Value),(∀n,I n->n<w.heap.size)->vs.length=args.length->
  (∀(i:Nat) c x,args[i]? =some c->vs[i]? =some x->RV σ I w c x)->RM σ I w (bE (mr++m))->(∀b,64<=b->σ b=none)->
  Calls P f vs.toArray w fun e w'=>∃v σ' I',e=.returned v/\fK σ I w (bE (mr++m)) 64 σ' I' w' (bE (mr++m'))/\RV σ' I' w' res v
theorem Ct.F {P:Program}{f:FuncId}{args:List AV}{mr m:List (Nat×bC)}{res:AV}{m':List (Nat×bC)}(h:Ct P f args mr m res m'):NZ (fun _ _=>True) .returned P f args mr m res m':=fun σ I w vs _=>h σ I w vs
def MK (p:D->D->Prop):List D->List D->Prop
 |[],[]=>True
 |x::xs,y::ys=>p x y/\MK p xs ys
 |_,_=>False
def I8 (p:D->D->Prop):List (List D)->List (List D)->Prop
 |[],[]=>True
 |x::xs,y::ys=>MK p x y/\I8 p xs ys
 |_,_=>False
def zH :Nat->D->D->Prop
 |_,.v (.slice none 0 0),.ro _ []=>True
 |n+1,.ro fc es,.ro fc' fs=>(fc'=true->fc=true)/\(es=fs\/I8 (zH n) es fs)
 |_,a,b=>a=b
abbrev X3 (a b:D):Prop:=zH 4 a b
def eJ :AV->AV->Prop
 |.d x,.d y=>X3 x y
 |.agg xs,.agg ys=>leL xs ys
 |.bI xs,.bI ys=>leL xs ys
 |.d (.v (.bool _)),.ab=>True
 |_,.any=>True
 |a,b=>a=b
where leL:List AV->List AV->Prop
 |[],[]=>True
 |x::xs,y::ys=>eJ x y/\leL xs ys
 |_,_=>False
theorem MJ {p:D->D->Prop}:∀{xs ys:List D},MK p xs ys->xs.length=ys.length/\∀(i:Nat) x y,xs[i]? =some x->ys[i]? =some y->p x y
 |[],[],_=>⟨rfl,fun i x y h=>by simp at h⟩
 |x::xs,y::ys,h=>by
  obtain⟨h1,h2⟩:=MJ h.2;refine⟨by simp[h1],fun i a b ha hb=>?_⟩;cases i with
  |zero=>simp at ha hb;rw[<-ha,<-hb];exact h.1
  |succ i=>exact h2 i a b (by simpa using ha) (by simpa using hb)
 |[],_::_,h=>h.elim
 |_::_,[],h=>h.elim
theorem X0 {p:D->D->Prop}:∀{xs ys:List (List D)},I8 p xs ys->xs.length=ys.length/\∀(i:Nat) x y,xs[i]? =some x->ys[i]? =some y->MK p x y
 |[],[],_=>⟨rfl,fun i x y h=>by simp at h⟩
 |x::xs,y::ys,h=>by
  obtain⟨h1,h2⟩:=X0 h.2;refine⟨by simp[h1],fun i a b ha hb=>?_⟩;cases i with
  |zero=>simp at ha hb;rw[<-ha,<-hb];exact h.1
  |succ i=>exact h2 i a b (by simpa using ha) (by simpa using hb)
 |[],_::_,h=>h.elim
 |_::_,[],h=>h.elim
theorem Nf {I:Nat->Prop}{w:World}:∀(n:Nat) {a b:D} {v:Value},zH n a b->RD I w a v->RD I w b v:=by
 intro n;induction n with
 |zero=>
  intro a b v h hv;unfold zH at h;split at h
  ·cases hv;exact .nil
  ·rename_i e;cases e
  ·subst h;exact hv
 |succ n ih=>
  intro a b v h hv;unfold zH at h;split at h
  ·cases hv;exact .nil
  ·rename_i m fc es fc' fs e;obtain rfl:n=m:=by omega
   obtain⟨hf,rfl|hl⟩:=h
   ·cases hv with
    |nil=>exact .nil
    |emp=>exact .emp
    |ro val hI h1 h2 h3 h4 h5 h6 h7=>exact .ro val hI h1 h2 h3 (fun h=>h4 (hf h)) h5 h6 h7
   ·obtain⟨hll,hlg⟩:=X0 hl;cases hv with
    |nil=>
     obtain rfl:fs=[]:=jL (by simpa using hll.symm);exact .nil
    |emp=>
     obtain rfl:fs=[]:=jL (by simpa using hll.symm);exact .emp
    | @ro sz _ _ bQ off cap val hI h1 h2 h3 h4 h5 h6 h7=>
      have hg:∀(i:Nat) e (j:Nat) c,fs[i]? =some e->e[j]? =some c->∃e0 c0,es[i]? =some e0/\e0[j]? =some c0/\zH n c0 c:=by
       intro i e j c he hc;have hi:i<es.length:=by rw[hll];exact(cC.1 he).1
       obtain⟨q1,q2⟩:=MJ (hlg i es[i] e (cI hi) he);have hj:j<es[i].length:=by rw[q1];exact(cC.1 hc).1
       exact⟨es[i],es[i][j],cI hi,cI hj,q2 j _ c (cI hj) hc⟩
      rw[hll];refine .ro (sz:=sz) val hI (fun e he=>?_) (by omega) h3 (fun h=>by rw[h4 (hf h),hll]) (fun i e j c he hc=>?_) (fun i e j c he hc=>?_) (fun i e j c he hc=>?_)
      ·obtain⟨i,hi⟩:=DN he;have hi':i<es.length:=by rw[hll];exact(cC.1 hi).1
       rw[<-(MJ (hlg i es[i] e (cI hi') hi)).1];exact h1 _ (lU _)
      ·obtain⟨e0,c0,g1,g2,_⟩:=hg i e j c he hc;exact h5 i e0 j c0 g1 g2
      ·obtain⟨e0,c0,g1,g2,g3⟩:=hg i e j c he hc;exact ih g3 (h6 i e0 j c0 g1 g2)
      ·obtain⟨e0,c0,g1,g2,_⟩:=hg i e j c he hc;exact h7 i e0 j c0 g1 g2
  ·subst h;exact hv
theorem zfB {I:Nat->Prop}{w:World}{a b:D}{v:Value}(h:X3 a b)(hv:RD I w a v):RD I w b v:=Nf 4 h hv
theorem MH :∀{xs ys:List AV},eJ.leL xs ys->xs.length=ys.length/\∀(i:Nat) x y,xs[i]? =some x->ys[i]? =some y->eJ x y
 |[],[],_=>⟨rfl,fun i x y h=>by simp at h⟩
 |x::xs,y::ys,h=>by
  obtain⟨h1,h2⟩:=MH h.2;refine⟨by simp[h1],fun i a b ha hb=>?_⟩;cases i with
  |zero=>simp at ha hb;rw[<-ha,<-hb];exact h.1
  |succ i=>exact h2 i a b (by simpa using ha) (by simpa using hb)
 |[],_::_,h=>h.elim
 |_::_,[],h=>h.elim
theorem RF {σ:Names}{I:Nat->Prop}{w:World}{a:AV}{v:Value}(hv:RV σ I w a v):∀{b:AV},eJ a b->RV σ I w b v:=by
 induction hv with
 | @d x y hd=>
   intro b h;cases b with
   |d z=>exact .d (zfB h hd)
   |any=>exact .any _
   |ab=>
    obtain⟨t,rfl⟩:∃t,x=.v (.bool t):=by
     cases x with
     |v y=>cases y<;>simp[eJ]at h⊢
     |_=>simp[eJ]at h
    cases hd;exact .ab _
   |_=>simp[eJ]at h
 | @agg cs xs hl hr ih=>
   intro b h;cases b with
   |agg ys=>
    obtain⟨h1,h2⟩:=MH (by simpa[eJ]using h);refine .agg (by rw[hl,h1]) (fun i c x hc hx=>?_);have hlt:i<cs.length:=by rw[h1];exact(cC.1 hc).1
    exact ih i cs[i] x (cI hlt) hx (h2 i _ c (cI hlt) hc)
   |any=>exact .any _
   |_=>simp[eJ]at h
 | @bI cs xs hl hr ih=>
   intro b h;cases b with
   |bI ys=>
    obtain⟨h1,h2⟩:=MH (by simpa[eJ]using h);refine .bI (by rw[hl,h1]) (fun i c x hc hx=>?_);have hlt:i<cs.length:=by rw[h1];exact(cC.1 hc).1
    exact ih i cs[i] x (cI hlt) hx (h2 i _ c (cI hlt) hc)
   |any=>exact .any _
   |_=>simp[eJ]at h
 |any y=>
  intro b h;cases b<;>first|exact .any _| (simp[eJ]at h;done)
 |ab t=>
  intro b h;cases b<;>first|exact .any _|exact .ab _| (simp[eJ]at h;done)
 |ptr h0=>
  intro b h;cases b<;>first|exact .any _| (simp[eJ]at h;try obtain⟨rfl,rfl⟩:=h;exact .ptr h0)| (simp[eJ]at h;done)
 |own h0 h1=>
  intro b h;cases b<;>first|exact .any _| (simp[eJ]at h;subst h;exact .own h0 h1)| (simp[eJ]at h;done)
 |iF h0=>
  intro b h;cases b<;>first|exact .any _| (simp[eJ]at h;obtain⟨rfl,rfl,rfl,rfl⟩:=h;exact .iF h0)| (simp[eJ]at h;done)
 |sl h0 hs=>
  intro b h;cases b<;>first|exact .any _| (simp[eJ]at h;obtain⟨rfl,rfl,rfl,rfl⟩:=h;exact .sl h0 hs)| (simp[eJ]at h;done)
 |fn hx hy h1 h2 i1 i2=>
  intro b h;cases b<;>first|exact .any _| (simp[eJ]at h;obtain⟨rfl,rfl,rfl⟩:=h;exact .fn hx hy h1 h2)| (simp[eJ]at h;done)
 |gK h0 ih=>
  intro b h;cases b<;>first|exact .any _| (simp[eJ]at h;obtain⟨rfl,rfl⟩:=h;exact .gK h0)| (simp[eJ]at h;done)
def sJ :AV->Option (FuncId×List AV×List AV)
 |.d (.v (.func (.func f) first captured))=>some (f,first.toList.map fun v=>.d (.v v),captured.toList.map fun v=>.d (.v v))
 |.fn (.func f) first captured=>some (f,first,captured)
 |.d (.fn (.func f) first captured)=>some (f,first.map .d,captured.map .d)
 |_=>none
theorem ziQ {σ:Names}{I:Nat->Prop}{w:World}{x:AV}{v:Value}{f:FuncId}{first captured:List AV}(h:sJ x=some (f,first,captured))(hv:RV σ I w x v):
  ∃xs ys:List Value,v=.func (.func f) xs.toArray ys.toArray/\xs.length=first.length/\ys.length=captured.length/\
   (∀(i:Nat) c y,first[i]? =some c->xs[i]? =some y->RV σ I w c y)/\∀(i:Nat) c y,captured[i]? =some c->ys[i]? =some y->RV σ I w c y:=by
 unfold sJ at h;split at h
 ·rename_i fst cap;cases h;refine⟨fst.toList,cap.toList,by rw[fM hv],by simp,by simp,fun i c y h1 h2=>?_,fun i c y h1 h2=>?_⟩<;>
  ·simp at h1 h2;obtain⟨z,hz,rfl⟩:=h1;rw[h2]at hz;cases hz;exact .d (.v _)
 ·cases h;cases hv with
  |fn hx hy h1 h2=>exact⟨_,_,rfl,hx,hy,h1,h2⟩
 ·cases h;cases hv with
  |d hv=>
   cases hv with
   |fn hx hy h1 h2=>
    refine⟨_,_,rfl,by simpa using hx,by simpa using hy,fun i c y k1 k2=>?_,fun i c y k1 k2=>?_⟩
    ·simp at k1;obtain⟨z,hz,rfl⟩:=k1;exact .d (h1 i z y hz k2)
    ·simp at k1;obtain⟨z,hz,rfl⟩:=k1;exact .d (h2 i z y hz k2)
 ·cases h
def Enters (P:Program)(f:FuncId):Prop:=∀(args:Array Value) (w:World),(callFunc f args).run P w=.ok (.enter f args) w
def eO (bn:List Nat)(nm:Nat)(b:Nat):Nat:=if b<64 then bn.getD b 0 else nm+(b-64)
def kL (bn:List Nat)(nm:Nat)(mr m:List (Nat×bC))(res:AV)(m':List (Nat×bC)):aP:=
 ⟨res.cF (eO bn nm),mr.map fun p=>eO bn nm p.1,
   (m.map fun p=>(eO bn nm p.1,(bE m' p.1).map (bC.cF (eO bn nm))))++(m'.filter fun p=>decide (64<=p.1)).map fun p=>(eO bn nm p.1,some (p.2.cF (eO bn nm)))⟩
def fD (n:Nat)(b:Nat):Bool:=decide (b<n)|| (decide (64<=b)&&decide (b<128))
structure z8 (bn:List Nat)(args:List AV)(mr m:List (Nat×bC))(res:AV)(m':List (Nat×bC)):Prop where
 len:bn.length<=64
 nodup:bn.Nodup
 args:fX.mH (fun b=>decide (b<bn.length)) args=true
 pre:∀p∈mr++m,p.1<bn.length/\aW (fun b=>decide (b<bn.length)) p.2=true
 keys:((mr++m).map (·.1)).Nodup
 res:fX (fD bn.length) res=true
 post:∀p∈mr++m',fD bn.length p.1=true/\aW (fD bn.length) p.2=true
 YB:((mr++m').map (·.1)).Nodup
theorem MG {l:List (Nat×bC)}(hn:(l.map (·.1)).Nodup){b:Nat}{k:bC}(h:(b,k)∈l):bE l b=some k:=by
 induction l with
 |nil=>cases h
 |cons p l ih=>
  obtain⟨c,q⟩:=p;simp only[iU,List.nodup_cons]at hn;rcases kN.1 h with e|h
  ·cases e;simp[bE]
  ·have hne:c≠b:=fun e=>hn.1 (e▸eR.2 ⟨_,h,rfl⟩);simp only[bE,aH hne];exact ih hn.2 h
theorem Ud {l:List (Nat×Option bC)}{b:Nat}{k:Option bC}(h:wrote l b=some k):(b,k)∈l:=by
 induction l with
 |nil=>cases h
 |cons p l ih=>
  obtain⟨c,q⟩:=p;simp only[wrote]at h;split at h
  ·rename_i e;cases h;subst e;simp
  ·simp[ih h]
theorem getD_inj {l:List Nat}(hn:l.Nodup){i j:Nat}(hi:i<l.length)(hj:j<l.length)(h:l.getD i 0=l.getD j 0):i=j:=by
 have h1:l.getD i 0=l[i]:=by simp[List.getD,hi]
 have h2:l.getD j 0=l[j]:=by simp[List.getD,hj]
 rw[h1,h2]at h;exact(List.getElem?_inj hi hn).1 (by rw[cI hi,cI hj,h])
section
variable {bn : List Nat} {nm : Nat} {args : List AV} {mr m m' : List (Nat × bC)} {res : AV} {mem : Mem}
theorem ziV (hk:∀p∈mr++m,mem (eO bn nm p.1)=some (p.2.cF (eO bn nm))){b:Nat}{k:bC}(h:bE (mr++m) b=some k):(kL bn nm mr m res m').mr mem (eO bn nm b)=some (k.cF (eO bn nm)):=by
 have hmem:=nV h;refine aP.lN (hk _ hmem) ?_;rcases dN.1 hmem with h|h
 ·exact .inl (eR.2 ⟨_,h,rfl⟩)
 ·refine .inr ((OD _ _).2 ?_);simp only[kL,BV,List.map_map];exact dN.2 (.inl (eR.2 ⟨_,h,rfl⟩))
theorem ziU (hn:z8 bn args mr m res m')(hk:∀p∈mr++m,mem (eO bn nm p.1)=some (p.2.cF (eO bn nm))){c:Nat}{q:bC}(h:(kL bn nm mr m res m').mw mem c=some q):
  ∃b k,bE (mr++m') b=some k/\c=eO bn nm b/\q=k.cF (eO bn nm)/\((bE (mr++m) b).isSome\/(64<=b/\b<128)):=by
 simp only[aP.mw]at h;split at h
 ·rename_i o ho;subst h;have hm:=Ud ho;simp only[kL]at hm;rcases dN.1 hm with h|h
  ·obtain⟨p,hp,e⟩:=eR.1 h;simp only[Prod.mk.injEq]at e;obtain⟨rfl,e⟩:=e;obtain⟨k,hk',rfl⟩:=qA.1 e;refine⟨p.1,k,MG hn.YB (dN.2 (.inr (nV hk'))),rfl,rfl,.inl ?_⟩;rw[MG hn.keys (dN.2 (.inr hp))];rfl
  ·obtain⟨p,hp,e⟩:=eR.1 h;simp only[Prod.mk.injEq,lS]at e;obtain⟨rfl,rfl⟩:=e;obtain⟨hp1,hp2⟩:=jD.1 hp;simp only[cP]at hp2;have hlt:p.1<128:=by
    have:=(hn.post p (dN.2 (.inr hp1))).1;simp only[fD,rT,cP,bN]at this;have:=hn.len;omega
   exact⟨p.1,p.2,MG hn.YB (dN.2 (.inr hp1)),rfl,rfl,.inr ⟨hp2,hlt⟩⟩
 ·split at h
  ·rename_i hc;simp only[kL]at hc;obtain⟨p,hp,rfl⟩:=eR.1 hc;rw[hk p (dN.2 (.inl hp))]at h;cases h;refine⟨p.1,p.2,MG hn.YB (dN.2 (.inl hp)),rfl,rfl,.inl ?_⟩;rw[MG hn.keys (dN.2 (.inl hp))];rfl
  ·cases h
theorem Z3 {P:Program}{o:Oper}{c:Call}{fo:Operand}{G:(Nat->Prop)->World->Prop}{fin:Value->Ending}(ho:o.op=.call c)(hc:c.callee=.value fo){tm:Nat->AV}{mem:Mem}{nm:Nat}{f:FuncId}{first captured:List AV}
  (hf:sJ (ev tm fo)=some (f,first,captured)) (hen:Enters P f) (hct:NZ G fin P f args mr m res m') (ha:eJ.leL (first++c.args.toList.map (ev tm)++captured) (args.map (AV.cF (eO bn nm)))) (hn:z8 bn args mr m res m')
  (hk:∀p∈mr++m,mem (eO bn nm p.1)=some (p.2.cF (eO bn nm))) {a:Act} {w:World} {σ:Names} {I:Nat->Prop} (hG:G I w) (h1:∀n,I n->n<w.heap.size)
  (h2:∀t,Operand.tmp t∈o.op.operands->RV σ I w (tm t) (a.tmps.getD t undef)) (h3:RM σ I w ((kL bn nm mr m res m').mr mem)) (h4:∀b,fresh nm b->σ b=none):
  ∃vs:Array Value,(execOp a.eval o).run P w=.ok (.enter f vs) w/\Calls P f vs w fun e w'=>∃v σ' I',e=fin v/\fK σ I w ((kL bn nm mr m res m').mr mem) nm σ' I' w' ((kL bn nm mr m res m').mw mem)/\RV σ' I' w' (kL bn nm mr m res m').res v:=by
 obtain⟨xs,ys,e1,lx,ly,rx,ry⟩:=ziQ hf (dZ (σ:=σ) (I:=I) (w:=w) (a:=a) (x:=fo) fun s e=>h2 s (by subst e;simp[ho,Op.operands,Call.operands,hc]));have harg:∀x∈c.args.toList,RV σ I w (ev tm x) (a.eval x):=fun x hx=>dZ fun s e=>h2 s (by subst e;simp[ho,Op.operands,Call.operands,hc];exact .inr (by simpa using hx))
 have hrun:(execOp a.eval o).run P w=.ok (.enter f (xs++c.args.toList.map a.eval++ys).toArray) w:=by
  have e3:(xs++c.args.toList.map a.eval++ys).toArray=xs.toArray++c.args.map a.eval++ys.toArray:=by
   apply HN;simp
  have e4:=hen (xs.toArray++c.args.map a.eval++ys.toArray) w;rw[<-e3]at e4;rw[<-e4,e3];simp[execOp,ho,resolve,hc,e1,Deferred.ofValue,invoke]
 refine⟨_,hrun,?_⟩
 let σ0:Names:=fun b=>if b<bn.length then σ (eO bn nm b)else none
 have hg:∀b,b<bn.length->eO bn nm b=bn.getD b 0:=fun b hb=>by simp only[eO];rw[aU (by have:=hn.len;omega)]
 have hs0:∀b,decide (b<bn.length)=true->∀x,σ (eO bn nm b)=some x->σ0 b=some x:=fun b hb x hx=>by simp only[σ0];rw[aU (by simpa using hb)];exact hx
 obtain⟨hla,hle⟩:=MH ha;have hlen0:(xs++c.args.toList.map a.eval++ys).length=args.length:=by
  have:(first++c.args.toList.map (ev tm)++captured).length=args.length:=by rw[hla];simp
  rw[<-this];simp[lx,ly]
 have hargs:∀(i:Nat) q v,args[i]? =some q->(xs++c.args.toList.map a.eval++ys)[i]? =some v->RV σ0 I w q v:=by
  intro i q v hq hv;have hlt:i<(first++c.args.toList.map (ev tm)++captured).length:=by rw[hla];simpa using(cC.1 hq).1
  obtain⟨A,hA⟩:∃A,(first++c.args.toList.map (ev tm)++captured)[i]? =some A:=⟨_,cI hlt⟩;have hav:RV σ I w A v:=by
   rw[AE]at hA hv;by_cases hi:i<first.length
   ·rw[jY hi]at hA;rw[jY (by omega)]at hv;exact rx i A v hA hv
   ·rw[nL (by omega)]at hA;rw[nL (by omega),lx]at hv;by_cases hj:i-first.length<c.args.size
    ·rw[jY (by simpa using hj)]at hA;rw[jY (by simpa using hj)]at hv;simp only[iJ]at hA hv;cases hx:c.args.toList[i-first.length]? with
     |none=>simp[hx]at hA
     |some x=>
      rw[hx]at hA hv;simp only[oK,lS]at hA hv;subst hA;subst hv;exact harg x (eH hx)
    ·rw[nL (by simpa using hj)]at hA;rw[nL (by simpa using hj)]at hv;simp only[vZ]at hA hv;exact ry _ A v hA hv
  have h5:=RF hav (hle i A (q.cF (eO bn nm)) hA (by simp[hq]));exact NW hs0 h5 rfl (yC hn.args i q hq)
 have hmr:∀b k,bE (mr++m) b=some k->(kL bn nm mr m res m').mr mem (eO bn nm b)=some (k.cF (eO bn nm)):=fun b k h=>ziV hk h;have hpre:∀b k,bE (mr++m) b=some k->b<bn.length/\aW (fun b=>decide (b<bn.length)) k=true:=fun b k h=>hn.pre _ (nV h);have hinj:∀b b',b<bn.length->b'<bn.length->eO bn nm b=eO bn nm b'->b=b':=fun b b' h h' e=>getD_inj hn.nodup h h' (by rw[<-hg b h,<-hg b' h',e])
 have hrm0:RM σ0 I w (bE (mr++m)):=by
  refine⟨fun b k hb=>?_,fun b b' k k' x x' n hb hb' hx hx' e e'=>?_⟩
  ·obtain⟨x,hx,hrb,hnn⟩:=h3.bQ _ _ (hmr b k hb);obtain⟨p1,p2⟩:=hpre b k hb;exact⟨x,hs0 b (by simpa using p1) x hx,J8 hs0 hrb p2,hnn⟩
  ·obtain⟨p1,p2⟩:=hpre b k hb;obtain⟨p1',p2'⟩:=hpre b' k' hb';simp only[σ0,aU p1]at hx;simp only[σ0,aU p1']at hx';exact hinj b b' p1 p1' (h3.apart _ _ _ _ x x' n (hmr b k hb) (hmr b' k' hb') hx hx' e e')
 have hfree0:∀b,64<=b->σ0 b=none:=fun b hb=>by simp only[σ0];rw[aH (by have:=hn.len;omega)]
 have own0:∀n,fU σ0 (bE (mr++m)) n->fU σ ((kL bn nm mr m res m').mr mem) n:=by
  rintro n ⟨b,k,x,hb,hx,e⟩;obtain⟨p1,p2⟩:=hpre b k hb;simp only[σ0,aU p1]at hx;exact⟨_,_,x,hmr b k hb,hx,e⟩
 refine(hct σ0 I w _ hG h1 hlen0 hargs hrm0 hfree0).mono (fun e w' he=>?_);obtain⟨v,σ1,I',rfl,hp,hrv⟩:=he
 let σ':Names:=fun b=>if nm<=b/\b<nm+64 then σ1 (64+(b-nm))else σ b
 have hnf:∀b x,σ b=some x->¬(nm<=b/\b<nm+64):=fun b x hx h=>by rw[h4 b h]at hx;cases hx
 have hs':∀b,fD bn.length b=true->∀x,σ1 b=some x->σ' (eO bn nm b)=some x:=by
  intro b hb x hx;simp only[fD,rT,cP,bN]at hb;rcases hb with hb|⟨hb1,hb2⟩
  ·cases h0:σ0 b with
   |none=>
    have:=hp.new b h0 (by rw[hx];simp);have:=this.1;have:=hn.len;omega
   |some y=>
    have h6:=hp.names b y h0;rw[hx]at h6;cases h6;simp only[σ0,aU hb]at h0;simp only[σ'];rw[aH (hnf _ _ h0)];exact h0
  ·have e1:eO bn nm b=nm+(b-64):=by simp only[eO];rw[aH (by omega)]
   simp only[σ',e1];rw[aU (by omega),show 64+(nm+(b-64)-nm)=b by omega];exact hx
 have hpost:∀b k,bE (mr++m') b=some k->fD bn.length b=true/\aW (fD bn.length) k=true:=fun b k h=>hn.post _ (nV h);have hmw:=fun{c q} (h:(kL bn nm mr m res m').mw mem c=some q)=>ziU (mem:=mem) hn hk h;refine⟨v,σ',I',rfl,?_,Tw hs' hrv hn.res⟩;refine⟨hp.os,hp.tape,hp.output,hp.size,fun b x hx=>?_,fun b hb1 hb2=>?_,hp.vI,hp.ib,fun n hn'=>?_,fun n hn1 hn2=>hp.frame n hn1 (fun ho=>hn2 (own0 n ho)),⟨fun c q hq=>?_,fun c c' q q' x x' n hq hq' hx hx' e e'=>?_⟩,fun c q hq=>?_,fun n ho=>?_⟩
 ·simp only[σ'];rw[aH (hnf _ _ hx)];exact hx
 ·simp only[σ']at hb2;split at hb2
  ·rename_i h;exact h
  ·exact absurd hb1 hb2
 ·rcases hp.lQ n hn' with g|g|g
  ·exact .inl g
  ·exact .inr (.inl g)
  ·exact .inr (.inr (own0 n g))
 ·obtain⟨b,k,hb,rfl,rfl,_⟩:=hmw hq;obtain⟨x,hx,hrb,hnn⟩:=hp.mem.bQ b k hb;obtain⟨p1,p2⟩:=hpost b k hb;exact⟨x,hs' b p1 x hx,zkU hs' hrb p2,hnn⟩
 ·obtain⟨b,k,hb,rfl,rfl,_⟩:=hmw hq;obtain⟨b',k',hb',rfl,rfl,_⟩:=hmw hq';obtain⟨y,hy,_,_⟩:=hp.mem.bQ b k hb;obtain⟨y',hy',_,_⟩:=hp.mem.bQ b' k' hb';have:=hs' b (hpost b k hb).1 y hy;rw[hx]at this;cases this;have:=hs' b' (hpost b' k' hb').1 y' hy';rw[hx']at this;cases this;rw[hp.mem.apart b b' k k' _ _ n hb hb' hy hy' e e']
 ·obtain⟨b,k,hb,rfl,rfl,hor⟩:=hmw hq;rcases hor with h|⟨h,h'⟩
  ·obtain⟨k0,hk0⟩:=pA.1 h;exact .inl (by rw[hmr b k0 hk0];simp)
  ·have e1:eO bn nm b=nm+(b-64):=by simp only[eO];rw[aH (by omega)]
   exact .inr (by rw[e1];exact⟨by omega,by omega⟩)
 ·obtain⟨c,q,x,hq,hx,e⟩:=ho;obtain⟨b,k,hb,rfl,rfl,_⟩:=hmw hq;obtain⟨y,hy,_,_⟩:=hp.mem.bQ b k hb;have:=hs' b (hpost b k hb).1 y hy;rw[hx]at this;cases this;rcases hp.kX n ⟨b,k,_,hb,hy,e⟩with g|g
  ·exact .inl (own0 n g)
  ·exact .inr g
theorem Jn {P:Program}{o:Oper}{c:Call}{fo:Operand}(ho:o.op=.call c)(hc:c.callee=.value fo)(tm:Nat->AV)(mem:Mem)(nm:Nat){f:FuncId}{first captured:List AV}
  (hf:sJ (ev tm fo)=some (f,first,captured)) (hen:Enters P f) (hct:Ct P f args mr m res m') (ha:eJ.leL (first++c.args.toList.map (ev tm)++captured) (args.map (AV.cF (eO bn nm)))) (hn:z8 bn args mr m res m')
  (hk:∀p∈mr++m,mem (eO bn nm p.1)=some (p.2.cF (eO bn nm))):
  bT P o tm ((kL bn nm mr m res m').mr mem) nm (kL bn nm mr m res m').res ((kL bn nm mr m res m').mw mem):=by
 intro a w σ I h1 h2 h3 h4 next Q hnx;obtain⟨vs,hrun,hcall⟩:=Z3 ho hc hf hen hct.F ha hn hk trivial h1 h2 h3 h4;simp only[Oper.wp,hrun,Oper.upon];refine hcall.mono fun e w' ⟨v,σ',I',he,hp,hv⟩=>?_;subst he;exact hnx v σ' I' w' hp hv
end
def ED (P:Program)(x:X):List ResultVar->Option (List AV)
 |[]=>some []
 |.tmp t::r=>(ED P x r).map fun l=>dB x.tm t::l
 |.cell a T::r=>match aZ P T with
  |some ti=>match CQ ti.agg ti.sz (dM x.mm) (dB x.tm a),ED P x r with
   |some e,some l=>some (e.res::l)
   |_,_=>none
  |none=>none
def IM (P:Program)(fn:Func)(x:X):Option AV:=
 match ED P x fn.results.toList with
 |some [r]=>some r
 |some l=>some (.bI l)
 |none=>none
def uG :Nat->List AV->List (Nat×AV)
 |_,[]=>[]
 |i,a::r=>(i,a)::uG (i+1) r
theorem Q5 :∀(l:List AV) (i t:Nat),dB (uG i l) t=if i<=t then(l[t-i]?).getD .any else .any
 |[],i,t=>by simp[uG,dB]
 |a::r,i,t=>by
  simp only[uG,dB,Q5 r (i+1) t];by_cases e:i=t
  ·subst e;simp
  ·by_cases h:i<=t
   ·have:t-i=(t-(i+1))+1:=by omega
    simp[e,h,show i+1<=t by omega,this]
   ·simp[e,h,show¬i+1<=t by omega]
theorem RM.sub {σ:Names}{I:Nat->Prop}{w:World}{m m':Mem}(hm:RM σ I w m)(h:∀b k,m' b=some k->m b=some k):RM σ I w m':=
 ⟨fun b k hb=>hm.bQ b k (h b k hb),fun b b' k k' x x' n h1 h2 h3 h4 h5 h6=>hm.apart b b' k k' x x' n (h b k h1) (h b' k' h2) h3 h4 h5 h6⟩
theorem aP.XK {e:aP}{m:Mem}:∀b k,e.mr m b=some k->m b=some k:=by
 intro b k hb;simp only[aP.mr]at hb;split at hb
 ·exact hb
 ·cases hb
def EC (tmps:Array Value):ResultVar->Sem Value
 |.tmp t=>pure (tmps.getD t undef)
 |.cell a t=>do loadVar t (<-asAddr (tmps.getD a undef))
theorem O9 {E:Ctx}{x:X}{σ:Names}{I:Nat->Prop}{a:Act}{w:World}(hr:pM E x.den σ I a w):∀(rs:List ResultVar) (l:List AV),ED E.P x rs=some l->
  ∃vs:List Value,(rs.mapM (EC a.tmps)).run E.P w=.ok vs w/\vs.length=l.length/\∀(i:Nat) c v,l[i]? =some c->vs[i]? =some v->RV σ I w c v
 |[],l,h=>by cases h;exact⟨[],by rw[List.mapM_nil];rfl,rfl,fun i c v h=>by simp at h⟩
 |.tmp t::rs,l,h=>by
  simp only[ED]at h;cases hl:ED E.P x rs with
  |none=>simp[hl]at h
  |some l'=>
   simp[hl]at h;subst h;obtain⟨vs,h1,h2,h3⟩:=O9 hr rs l' hl;refine⟨a.tmps.getD t undef::vs,?_,by simp[h2],fun i c v hc hv=>?_⟩
   ·rw[List.mapM_cons];simp only[EC,eC,lI,eQ,h1]
   ·cases i with
    |zero=>
     rw[BX]at hc hv;cases hc;cases hv;exact hr.tm t
    |succ i=>exact h3 i c v (by simpa using hc) (by simpa using hv)
 |.cell ad T::rs,l,h=>by
  simp only[ED]at h;split at h
  ·rename_i ti hT;split at h
   ·rename_i e l' he hl;cases h;obtain⟨vs,h1,h2,h3⟩:=O9 hr rs l' hl;obtain⟨q,u,e1,e2,e3⟩:=Mv hT he (hr.tm ad) (hr.mm.sub aP.XK);refine⟨u::vs,?_,by simp[h2],fun i c v hc hv=>?_⟩
    ·rw[List.mapM_cons];simp only[EC,eC,e1,asAddr,lI,eQ,e2,h1]
    ·cases i with
     |zero=>
      rw[BX]at hc hv;cases hc;cases hv;exact e3
     |succ i=>exact h3 i c v (by simpa using hc) (by simpa using hv)
   ·cases h
  ·cases h
theorem V3 {P:Program}{fn:Func}{tmps:Array Value}{w:World}{vs:List Value}(h:(fn.results.toList.mapM (EC tmps)).run P w=.ok vs w):
  (results fn tmps).run P w=.ok (if h:vs.toArray.size=1 then vs.toArray[0]else .tuple vs.toArray) w:=by
 have e:results fn tmps=(do
   let us<-fn.results.mapM (EC tmps)
   pure (if h:us.size=1 then us[0]else .tuple us)):=by
  unfold results;congr 1
 have e2:fn.results.mapM (EC tmps)=List.toArray<$>fn.results.toList.mapM (EC tmps):=by
  rw[<-List.mapM_toArray]
 rw[e,e2,map_eq_pure_bind];simp only[eC,h,eQ,lI]
theorem zbH {E:Ctx}{x:X}{σ:Names}{I:Nat->Prop}{a:Act}{w:World}(hr:pM E x.den σ I a w){fn:Func}{r:AV}(h:IM E.P fn x=some r):
  ∃v,(results fn a.tmps).run E.P w=.ok v w/\RV σ I w r v:=by
 unfold IM at h;split at h
 ·rename_i r' hl;cases h;obtain⟨vs,h1,h2,h3⟩:=O9 hr _ _ hl
  match vs,h2,h1,h3 with
  |[v],_,h1,h3=>exact⟨v,by rw[V3 h1];rfl,h3 0 r v rfl rfl⟩
 ·rename_i l hne hl;cases h;obtain⟨vs,h1,h2,h3⟩:=O9 hr _ _ hl;refine⟨.tuple vs.toArray,?_,.bI h2 h3⟩;rw[V3 h1,dif_neg];intro h1';simp at h1';rw[h1']at h2
  match l,h2 with
  |[r'],_=>exact hne r' rfl
 ·cases h
def lO :List (Nat×Nat)->Nat->Option Nat
 |[],_=>none
 | (a,c)::r,b=>if a=b then some c else lO r b
def gf (g:List (Nat×Nat))(b:Nat):Nat:=if b<64 then b else(lO g b).getD b
def aV (m:List (Nat×bC))(g:List (Nat×Nat))(b:Nat):Bool:=(decide (b<64)&&(bE m b).isSome)|| (decide (64<=b)&&(lO g b).isSome)
structure BJ (mm:Nat->Option bC)(r:AV)(m:List (Nat×bC))(res:AV)(m':List (Nat×bC))(g:List (Nat×Nat)):Prop where
 zgZ:eJ (fO (fun b=>(m'.map fun p=>gf g p.1).contains b) mm 8 r) (res.cF (gf g))
 post:∀p∈m',mm (gf g p.1)=some (p.2.cF (gf g))
 nd:(m'.map fun p=>gf g p.1).Nodup
 nd':(m'.map (·.1)).Nodup
 wW:∀p∈m',aV m g p.1=true/\aW (aV m g) p.2=true
 zes:fX (aV m g) res=true
 g:∀q∈g,64<=q.1/\q.1<128
def Tv (mm:Nat->Option bC)(m:List (Nat×bC))(res:AV)(m':List (Nat×bC)):Option AV->Prop
 |some r=>∃g,BJ mm r m res m' g
 |none=>False
def wI (P:Program)(fn:Func)(m:List (Nat×bC))(res:AV)(m':List (Nat×bC)):Exit->X->Prop:=fun e x=>(e=.normal\/e=.ret)/\Tv (dM x.mm) m res m' (IM P fn x)
theorem GH (l:List (Nat×bC)):dM (l.map fun p=>(p.1,some p.2))=bE l:=by
 funext b
 induction l with
 |nil=>rfl
 |cons p l ih=>obtain⟨c,k⟩:=p;simp only[iU,dM,bE,ih]
theorem XB {α β:Type}{f:α->β}:∀{l:List α},(l.map f).Nodup->∀{x y:α},x∈l->y∈l->f x=f y->x=y
 |[],_,_,_,h,_,_=>by cases h
 |a::l,hn,x,y,hx,hy,e=>by
  simp only[iU,List.nodup_cons]at hn;rcases kN.1 hx with h1|h1<;>rcases kN.1 hy with h2|h2
  ·rw[h1,h2]
  ·subst h1;exact absurd (eR.2 ⟨y,h2,e.symm⟩) hn.1
  ·subst h2;exact absurd (eR.2 ⟨x,h1,e⟩) hn.1
  ·exact XB hn.2 h1 h2 e
theorem Gy {E:Ctx}{σ:Names}{I:Nat->Prop}{w:World}{vs:List Value}{args:List AV}{m0:List (Nat×bC)}(hw0:E.w0=w)(hbor:E.uM=fU σ (bE m0))(hI0:E.I0=I)(hs0:E.s0=σ)(hn:args.length<=E.nt)
  (hib:∀n,I n->n<w.heap.size) (hl:vs.length=args.length) (hv:∀(i:Nat) c x,args[i]? =some c->vs[i]? =some x->RV σ I w c x) (hrm:RM σ I w (bE m0)) (hfree:∀b,64<=b->σ b=none):
  Rel E (X.den ⟨uG 0 args,m0.map (fun p=>(p.1,some p.2)),64⟩) {tmps:=vs.toArray++Array.replicate (E.nt-vs.toArray.size) undef,defers:=[]} w:=by
 subst hw0 hI0 hs0;have hlk:dM (m0.map fun p=>(p.1,some p.2))=bE m0:=GH _;refine⟨E.s0,E.I0,?_,rfl,fun t=>?_,?_,fun b hb=>hfree b hb,hib,fun _ h=>h,fun n h=>.inl h,fun n h=>?_,rfl,rfl,⟨rfl,cM _⟩,cM _,fun _ _ _=>rfl,fun _ _ h=>h,hfree⟩
 ·simp;show _=E.nt;omega
 ·simp only[X.den,Q5,DI,eA,KE];cases ha:args[t]? with
  |none=>exact .any _
  |some c=>
   have hlt:t<vs.length:=by have:=(cC.1 ha).1;omega
   have e1:(vs.toArray++Array.replicate (E.nt-vs.toArray.size) undef).getD t undef=vs[t]:=by
    simp[Array.getElem?_append,hlt]
   rw[e1];exact hv t c _ ha (cI hlt)
 ·show RM E.s0 E.I0 E.w0 (dM _);rw[hlk];exact hrm
 ·have h':fU E.s0 (dM (m0.map fun p=>(p.1,some p.2))) n:=h;rw[hlk]at h';rw[hbor];exact .inl h'
theorem Ht {E:Ctx}{w w':World}{σ σf:Names}{I If:Nat->Prop}{a:Act}{x:X}{m0 m1:List (Nat×bC)}{r res:AV}{v:Value}{g:List (Nat×Nat)}(hw0:E.w0=w)(hbor:E.uM=fU σ (bE m0))(hI0:E.I0=I)(hs0:E.s0=σ)
  (hrm:RM σ I w (bE m0)) (hfree:∀b,64<=b->σ b=none) (hr:pM E x.den σf If a w') (hfin:BJ (dM x.mm) r m0 res m1 g) (h2:RV σf If w' r v):
  ∃σ' I',fK σ I w (bE m0) 64 σ' I' w' (bE m1)/\RV σ' I' w' res v:=by
 subst hw0 hI0 hs0
 let kp:Nat->Bool:=fun b=>(m1.map fun p=>gf g p.1).contains b
 let I':=given σf If (dM x.mm) kp
 let σ':Names:=fun b=>if b<64 then E.s0 b else match lO g b with|some c=>σf c|none=>none
 have hmx:RM σf If w' (dM x.mm):=hr.mm;have hs:∀b,aV m0 g b=true->∀y,σf (gf g b)=some y->σ' b=some y:=by
  intro b hb y hy;simp only[aV,rT,bN,cP]at hb;rcases hb with⟨hb1,hb2⟩|⟨hb1,hb2⟩
  ·obtain⟨k,hk⟩:=pA.1 hb2;obtain⟨z,hz,_⟩:=hrm.bQ b k hk;have:=hr.keep b z hz;simp only[gf,aU hb1]at hy;rw[hy]at this;cases this;simp only[σ',aU hb1];exact hz
  ·obtain⟨c,hc⟩:=pA.1 hb2;have hnl:¬b<64:=by omega
   simp only[gf,aH hnl,hc,sS]at hy;simp only[σ',aH hnl,hc];exact hy
 have hs':∀b,aV m0 g b=true->∀y,σ' b=some y->σf (gf g b)=some y:=by
  intro b hb y hy;simp only[aV,rT,bN,cP]at hb;rcases hb with⟨hb1,hb2⟩|⟨hb1,hb2⟩
  ·simp only[σ',aU hb1]at hy;simp only[gf,aU hb1];exact hr.keep b y hy
  ·have hnl:¬b<64:=by omega
   obtain⟨c,hc⟩:=pA.1 hb2;simp only[σ',aH hnl,hc]at hy;simp only[gf,aH hnl,hc,sS];exact hy
 have hrv:RV σ' I' w' res v:=NW hs (RF (LY (kp:=kp) hmx 8 h2) hfin.zgZ) rfl hfin.zes;have hblk:∀b k,bE m1 b=some k->∃y,σ' b=some y/\σf (gf g b)=some y/\dM x.mm (gf g b)=some (k.cF (gf g))/\RB σ' I' w' k y/\∀n,AI.hb y=some n->n<w'.heap.size/\¬I' n:=by
  intro b k hb';have hmem:=nV hb';have hpo:=hfin.post _ hmem;obtain⟨d1,d2⟩:=hfin.wW _ hmem;obtain⟨y,hy,hrb,hnn⟩:=hmx.bQ _ _ hpo;have hrb':RB σf I' w' (k.cF (gf g)) y:=hrb.mono (fun _ _=>rfl) (fun n h=>.inl h) (fun _ _ h=>h) (fun _ _=>rfl);refine⟨y,hs b d1 y hy,hy,hpo,J8 hs hrb' d2,fun n hn'=>⟨(hnn n hn').1,?_⟩⟩;rintro(h|⟨b0,hk0,c,q,z,e,q1,q2,q3⟩)
  ·exact(hnn n hn').2 h
  ·cases e;have:=hmx.apart _ _ _ _ _ _ n hpo q1 hy q2 hn' q3;subst this;have:kp (gf g b)=true:=by
    simp only[kp,UF];exact eR.2 ⟨_,hmem,rfl⟩
   rw[this]at hk0;cases hk0
 refine⟨σ',I',?_,hrv⟩;refine⟨hr.os,hr.tape,hr.output,hr.hs,fun b y hy=>?_,fun b hb1 hb2=>?_,fun n hn'=>.inl (hr.i0 n hn'),fun n hn'=>?_,fun n hn'=>?_,fun n hn1 hn2=>hr.frame n hn1 (by rw[hbor];exact hn2),⟨fun b k hb'=>?_,fun b b' k k' y y' n q1 q2 q3 q4 q5 q6=>?_⟩,fun b k hb'=>?_,fun n ho=>?_⟩
 ·have:b<64:=by
   rcases vX b 64 with h|h
   ·exact h
   ·rw[hfree b h]at hy;cases hy
  simp only[σ',aU this];exact hy
 ·by_cases hlt:b<64
  ·simp only[σ',aU hlt]at hb2;exact absurd hb1 hb2
  ·simp only[σ',aH hlt]at hb2;cases hc:lO g b with
   |none=>rw[hc]at hb2;exact absurd rfl hb2
   |some c=>
    have:∀{g:List (Nat×Nat)},lO g b=some c->(b,c)∈g:=by
     intro g;induction g with
     |nil=>intro h;cases h
     |cons q g ih=>
      obtain⟨a1,a2⟩:=q;intro h;simp only[lO]at h;split at h
      ·rename_i e;cases h;subst e;simp
      ·simp[ih h]
    exact hfin.g _ (this hc)
 ·rcases hn' with h|⟨b0,hk0,c,q,z,e,q1,q2,q3⟩
  ·exact hr.ib n h
  ·obtain⟨z',hz',_,hnn⟩:=hmx.bQ _ _ q1;rw[q2]at hz';cases hz';exact(hnn n q3).1
 ·rcases hn' with h|⟨b0,hk0,c,q,z,e,q1,q2,q3⟩
  ·rcases hr.lQ n h with g|g|g
   ·exact .inl g
   ·exact .inr (.inr (by rw[hbor]at g;exact g))
   ·exact .inr (.inl g)
  ·rcases hr.kX n ⟨c,q,z,q1,q2,q3⟩with g|g
   ·exact .inr (.inr (by rw[hbor]at g;exact g))
   ·exact .inr (.inl g)
 ·obtain⟨y,p1,p2,p3,p4,p5⟩:=hblk b k hb';exact⟨y,p1,p4,p5⟩
 ·obtain⟨u,p1,p2,p3,p4,p5⟩:=hblk b k q1;obtain⟨u',p1',p2',p3',p4',p5'⟩:=hblk b' k' q2;rw[q3]at p1;cases p1;rw[q4]at p1';cases p1';have:=hmx.apart _ _ _ _ _ _ n p3 p3' p2 p2' q5 q6;have:=XB hfin.nd (nV q1) (nV q2) this;exact dH Prod.fst this
 ·have hd:=(hfin.wW _ (nV hb')).1;simp only[aV,rT,bN,cP]at hd;rcases hd with⟨_,hd⟩|⟨hd1,hd2⟩
  ·left;intro h;rw[h]at hd;cases hd
  ·right;obtain⟨c,hc⟩:=pA.1 hd2;have:∀{g:List (Nat×Nat)},lO g b=some c->(b,c)∈g:=by
    intro g;induction g with
    |nil=>intro h;cases h
    |cons q g ih=>
     obtain⟨a1,a2⟩:=q;intro h;simp only[lO]at h;split at h
     ·rename_i e;cases h;subst e;simp
     ·simp[ih h]
   exact hfin.g _ (this hc)
 ·obtain⟨b,k,y,q1,q2,q3⟩:=ho;obtain⟨u,p1,p2,p3,p4,p5⟩:=hblk b k q1;rw[q2]at p1;cases p1;have h9:=hr.kX n ⟨_,_,y,p3,p2,q3⟩;rw[hbor]at h9;exact h9
def Ap (G:(Nat->Prop)->World->Prop):Prop:=∀(I I':Nat->Prop) (w w':World),G I w->(∀n,I n->w'.heap[n]? =w.heap[n]?)->(∀n,I n->I' n)->G I' w'
def cO (G:(Nat->Prop)->World->Prop)(P:Program)(f:FuncId)(args:List AV)(mr m:List (Nat×bC))(res:AV)(m':List (Nat×bC)):Prop:=
 NZ G .returned P f args mr m res m'
theorem Ct.HR {G:(Nat->Prop)->World->Prop}{P:Program}{f:FuncId}{args:List AV}{mr m m':List (Nat×bC)}{res:AV}(h:Ct P f args mr m res m'):cO G P f args mr m res m':=
 fun σ I w vs _ h1 h2 h3 h4 h5=>h σ I w vs h1 h2 h3 h4 h5
abbrev JG (G:(Nat->Prop)->World->Prop):Names->(Nat->Prop)->World->Prop:=fun _ I w=>G I w
theorem cO.EO {G:(Nat->Prop)->World->Prop}(hGk:Ap G){P:Program}{f:FuncId}{fn:Func}{c:Code}{args:List AV}{mr m:List (Nat×bC)}{res:AV}{m':List (Nat×bC)}(hf:P.funcs[f]? =some fn)(hb:fn.body=some c)(hm:P.follows .mixedOrders=true)(hn:args.length<=fn.ntmps)
  (h:CI none 0 (JG G) P fn.ntmps (wI P fn (mr++m) res (mr++m')) [.code c] ⟨uG 0 args,(mr++m).map (fun p=>(p.1,some p.2)),64⟩):cO G P f args mr m res m':=by
 intro σ I w vs hG hib hl hv hrm hfree;refine(FF (n:=0)).1 ?_;refine callsIn_of_wp (F:=FW none) hf hb trivial ?_ rfl
 let E:Ctx:={P:=P,w0:=w,uM:=fU σ (bE (mr++m)),I0:=I,nt:=fn.ntmps,s0:=σ}
 have hJ:∀s σ' I' a w',pM E s σ' I' a w'->JG G σ' I' w':=by
  intro s σ' I' a w' hr;refine hGk I I' w w' hG (fun n hn=>hr.frame n (hib n hn) ?_) (fun n hn=>hr.i0 n hn);rintro⟨b,k,x,h1,h2,h3⟩;obtain⟨x',h4,_,h5⟩:=hrm.bQ b k h1;rw[h2]at h4;cases h4;exact(h5 n h3).2 hn
 refine BO ((BL hm h E rfl rfl hJ).1 rfl _ w (Gy (E:=E) rfl rfl rfl rfl hn hib hl hv hrm hfree)) (fun e a w' hq=>?_);obtain⟨x,⟨σf,If,hr⟩,he,hret⟩:tL E (wI P fn (mr++m) res (mr++m')) e a w':=by
  cases e<;>simpa[eP]using hq
 obtain⟨r,ho,g,hfin⟩:∃r,IM P fn x=some r/\∃g,BJ (dM x.mm) r (mr++m) res (mr++m') g:=by
  cases ho:IM P fn x with
  |none=>rw[ho]at hret;exact hret.elim
  |some r=>rw[ho]at hret;exact⟨r,rfl,hret⟩
 obtain⟨v,h1,h2⟩:=zbH hr ho;obtain⟨σ',I',hp,hrv⟩:=Ht (E:=E) rfl rfl rfl rfl hrm hfree hr hfin h2;rcases he with rfl|rfl
 ·exact⟨hr.yN,v,h1,v,σ',I',rfl,hp,hrv⟩
 ·exact⟨hr.yN,v,h1,v,σ',I',rfl,hp,hrv⟩
abbrev J0 :Names->(Nat->Prop)->World->Prop:=fun _ _ _=>True
theorem Ct.EO {P:Program}{f:FuncId}{fn:Func}{c:Code}{args:List AV}{mr m:List (Nat×bC)}{res:AV}{m':List (Nat×bC)}(hf:P.funcs[f]? =some fn)(hb:fn.body=some c)(hm:P.follows .mixedOrders=true)(hn:args.length<=fn.ntmps)
  (h:CI none 0 J0 P fn.ntmps (wI P fn (mr++m) res (mr++m')) [.code c] ⟨uG 0 args,(mr++m).map (fun p=>(p.1,some p.2)),64⟩):Ct P f args mr m res m':=
 fun σ I w vs=>cO.EO (G:=fun _ _=>True) (fun _ _ _ _ _ _ _=>trivial) hf hb hm hn h σ I w vs trivial
end Go.AI
