/- A FRAMEWORK OF MY OWN (2) -/
import Derived.Test.YtobcmagefgdgdaaGreatDoorFa
set_option linter.unusedSimpArgs false
set_option linter.unusedVariables false
set_option maxRecDepth 100000
set_option maxHeartbeats 8000000
namespace Go.AI
open Classical
def SP :TypeDesc->Bool
 |.int _=>true
 |.bool=>true
 |.string=>true
 |_=>false
def QX (P:Program)(T:TypeId):Bool:=
 match P.underlying T with
 |some (.struct fs)=>fs.toList.all λf=>match P.underlying f.type with
  |some d=>SP d&&decide (f.offset<bV P T)
  |none=>false
 |some d=>SP d
 |none=>false
theorem zbC {P:Program}{w:World}{t:TypeId}{d:TypeDesc}(h:P.underlying t=some d)(hb:SP d=true){xs:List Value}{off:Nat}(hs:off<xs.length):(part t xs.toArray off).run P w=.ok xs[off] w:=by
 have hg:jV d=false:=by cases d<;>first|rfl|cases hb
 simp[part,E3 h,hg,hs]
theorem run_checkKey {P:Program}{w:World}{T:TypeId}(h:QX P T=true){ka:Bool}{xs:List Value}(hl:xs.length=bV P T)(ha:∀d,P.underlying T=some d->ka=jV d)(hx:ka=false->∃x,xs=[x])(ho:∀x∈xs,x.oneCell'=true)(empty:Bool):
  (Instr.checkKey empty 10000 T (mk ka xs)).run P w=.ok () w:=by
 obtain⟨m,hm⟩:∃m,10000=m+1+1:=⟨9998,rfl⟩;rw[hm];unfold QX at h;have basic:∀(n:Nat) (d:TypeDesc) (t:TypeId) (v:Value),P.underlying t=some d->SP d=true->(Instr.checkKey empty (n+1) t v).run P w=.ok () w:=by
  intro n d t v hu hb;simp only[Instr.checkKey,dS,cZ hu];cases d<;>first| (cases hb;done)|rfl
 split at h
 ·rename_i fs hu;have:=ha _ hu;simp only[jV]at this;subst this;simp only[mk,fK];rw[Instr.checkKey];simp only[dS,cZ hu,fB]
  have key:∀l:List Field,(∀f∈l,f∈fs.toList)->∀b:PUnit,(forIn (m:=Sem) l b λf _=>do
    if f.name≠ "_" then Instr.checkKey empty (m+1) f.type (←part f.type xs.toArray f.offset)
    pure (ForInStep.yield PUnit.unit)).run P w=.ok PUnit.unit w:=by
   intro l;induction l with
   |nil=>intro _ b;simp
   |cons f l ih=>
    intro hm b;have hf:=dP.1 h f (hm f (by simp));split at hf
    ·rename_i d hd;simp at hf;have e1:=zbC (w:=w) hd hf.1 (xs:=xs) (off:=f.offset) (by rw[hl];exact hf.2);have e2:=basic m d f.type (xs[f.offset]'(by rw[hl];exact hf.2)) hd hf.1;simp only[List.forIn_cons];by_cases hn:f.name≠ "_"
     ·simp only[hn,ne_eq,MP,fK,dS,e1,fB,e2];exact ih (λg hg=>hm g (by simp[hg])) _
     ·simp only[hn,iO,oD,fB];exact ih (λg hg=>hm g (by simp[hg])) _
    ·cases hf
  have:=key fs.toList (λf hf=>hf) PUnit.unit;simp only[Array.forIn_toList]at this⊢;simp at this⊢;rw[this];rfl
 ·rename_i d hns hu;exact basic (m+1) d T _ hu h
 ·cases h
theorem Ph :∀{ks:List CK} {xs ys:List Value},iX ks xs=true->iX ks ys=true->lX ks xs ys=some (decide (xs=ys))
 |[],[],[],_,_=>rfl
 |k::ks,x::xs,y::ys,h,g=>by
  simp only[iX,bL]at h g;have ih:=Ph h.2 g.2;have hc:yZ k x y=some (decide (x=y)):=by
   have h1:=h.1;have g1:=g.1;cases k<;>cases x<;>first| (simp[CK.fits]at h1;done)|skip
   ·rename_i kx nx;cases y<;>first| (simp[CK.fits]at g1;done)|skip
    rename_i ky ny;cases kx<;>first| (simp[CK.fits]at h1;done)|skip
    cases ky<;>first| (simp[CK.fits]at g1;done)|skip
    simp[yZ]
   ·cases y<;>first| (simp[CK.fits]at g1;done)|skip
    simp[yZ]
   ·cases y<;>first| (simp[CK.fits]at g1;done)|skip
    simp[yZ]
  simp only[lX,hc,ih,List.cons.injEq];by_cases e1:x=y<;>by_cases e2:xs=ys<;>simp[e1,e2]
 |[],[],_::_,_,h=>by cases h
 |[],_::_,_,h,_=>by cases h
 |_::_,[],_,h,_=>by cases h
 |_::_,_::_,[],_,h=>by cases h
theorem zbI {P:Program}{w:World}{T:TypeId}{d:TypeDesc}{ks:List CK}(hf:pR P 8 T=some ks)(hu:P.underlying T=some d){xs ys:List Value}(hx:iX ks xs=true)(hy:iX ks ys=true):
  (Op.equal T (mk (jV d) xs) (mk (jV d) ys)).run P w=.ok (decide (xs=ys)) w:=
 Fk 8 10000 T ks d hf (by omega) hu xs ys _ (Ph hx hy) w
noncomputable def mP (kc:List Value)(keys:Nat->List Value):Nat->Nat->Option Nat
 |0,_=>none
 |n+1,i=>if kc=keys i then some i else mP kc keys n (i+1)
theorem GY {kc:List Value}{keys:Nat->List Value}:∀{n i j:Nat},mP kc keys n i=some j->i<=j/\j<i+n/\kc=keys j
 |0,_,_,h=>by cases h
 |n+1,i,j,h=>by
  unfold mP at h;split at h
  ·rename_i e;cases h;exact⟨bY _,by omega,e⟩
  ·have:=GY h;exact⟨by omega,by omega,this.2.2⟩
theorem VF {kc:List Value}{keys:Nat->List Value}:∀{n i:Nat},mP kc keys n i=none->∀j,i<=j->j<i+n->kc≠keys j
 |0,_,_,j,h1,h2=>by omega
 |n+1,i,h,j,h1,h2=>by
  unfold mP at h;split at h
  ·cases h
  ·rename_i e;by_cases hj:j=i
   ·subst hj;exact e
   ·exact VF h j (by omega) (by omega)
theorem Pm {kind:TypeDesc}{k:CK}(hk:(∃i,kind=.int i/\k=.int)\/(kind=.bool/\k=.bool)\/(kind=.string/\k=.str)){x:Value}(hx:k.fits x=true){keys:Nat->List Value}:∀(es:List MapEntry) (i:Nat),
  (∀(j:Nat) e,es[j]? =some e->∃y,keys (i+j)=[y]/\e.key=y/\k.fits y=true)->Instr.findNow kind x es i=some ((mP [x] keys es.length i).map λj=>(j,(es.getD (j-i) default).val))
 |[],i,_=>rfl
 |e::es,i,h=>by
  obtain⟨y,h1,h2,h3⟩:=h 0 e rfl;rw[AX]at h1;have hs:Instr.sameNow kind x y=some (decide (x=y)):=by
   rcases hk with⟨ik,rfl,rfl⟩|⟨rfl,rfl⟩|⟨rfl,rfl⟩<;>cases x<;>first| (simp[CK.fits]at hx;done)|skip
   ·rename_i kx nx;cases y<;>first| (simp[CK.fits]at h3;done)|skip
    rename_i ky ny;cases kx<;>first| (simp[CK.fits]at hx;done)|skip
    cases ky<;>first| (simp[CK.fits]at h3;done)|skip
    simp[Instr.sameNow];by_cases e:nx=ny<;>simp[e]
   ·rename_i a;cases y<;>first| (simp[CK.fits]at h3;done)|skip
    rename_i b;simp[Instr.sameNow];cases a<;>cases b<;>rfl
   ·rename_i a;cases y<;>first| (simp[CK.fits]at h3;done)|skip
    rename_i b;have hb:=(beq_toListBytes a b).trans (SM a b);have:(Value.string a=Value.string b)=(a=b):=by simp
    simp only[Instr.sameNow,hb,pX,this]
  have ih:=Pm hk hx (keys:=keys) es (i+1) (λj e' hj=>by
   obtain⟨y',a,b,c⟩:=h (j+1) e' (by simpa using hj);exact⟨y',by rw[show i+1+j=i+(j+1) by omega];exact a,b,c⟩)
  unfold Instr.findNow;rw[h2,hs];simp only[jI,mP,h1,List.cons.injEq,and_true];by_cases e':x=y
  ·simp[e']
  ·simp only[e',F8,iO,ih];congr 1
   cases hsk:mP [x] keys es.length (i+1)with
   |none=>rfl
   |some j=>
    have:=(GY hsk).1;simp only[tM,pX,Prod.mk.injEq,AQ];rw[show j-i=(j-(i+1))+1 by omega];simp
theorem Po {P:Program}{w:World}{T:TypeId}{d:TypeDesc}{ks:List CK}(hf:pR P 8 T=some ks)(hu:P.underlying T=some d){kc:List Value}(hx:iX ks kc=true){keys:Nat->List Value}:∀(es:List MapEntry) (i:Nat),
  (∀(j:Nat) e,es[j]? =some e->e.key=mk (jV d) (keys (i+j))/\iX ks (keys (i+j))=true)->
  (Instr.findAsking T (mk (jV d) kc) es i).run P w=.ok ((mP kc keys es.length i).map λj=>(j,(es.getD (j-i) default).val)) w
 |[],i,_=>rfl
 |e::es,i,h=>by
  obtain⟨h1,h2⟩:=h 0 e rfl;rw[AX]at h1 h2;have ih:=Po (w:=w) hf hu hx (keys:=keys) es (i+1) (λj e' hj=>by
   have:=h (j+1) e' (by simpa using hj);rw[show i+1+j=i+(j+1) by omega];exact this)
  unfold Instr.findAsking;simp only[dS,h1,zbI hf hu hx h2,fB,jI,mP];by_cases e':kc=keys i
  ·simp[e']
  ·simp only[e',F8,A1,iO,ih];congr 1
   cases hsk:mP kc keys es.length (i+1)with
   |none=>rfl
   |some j=>
    have:=(GY hsk).1;simp only[tM,pX,Prod.mk.injEq,AQ];rw[show j-i=(j-(i+1))+1 by omega];simp
def DN (P:Program)(T:TypeId)(ka:Bool)(ks:List CK):Prop:=
 pR P 8 T=some ks/\QX P T=true/\ks.length=bV P T/\(match P.underlying T with
  |some d=>jV d=ka/\(ka=false->(match d,ks with|.int _,[.int]=>true|.bool,[.bool]=>true|.string,[.str]=>true|_,_=>false)=true)
  |none=>False)
theorem run_findKey {P:Program}{w:World}{T:TypeId}{ka:Bool}{ks:List CK}(hK:DN P T ka ks){kc:List Value}(hx:iX ks kc=true){keys:Nat->List Value}{es:Array MapEntry}
  (h:∀(j:Nat) e,es[j]? =some e->e.key=mk ka (keys j)/\iX ks (keys j)=true):
  (Instr.findKey T (mk ka kc) es.toList).run P w=.ok ((mP kc keys es.size 0).map λj=>(j,(es.getD j default).val)) w:=by
 obtain⟨hf,hkt,hl,hd⟩:=hK;split at hd
 case h_2=>exact hd.elim
 rename_i d hu;obtain⟨hg,hone⟩:=hd;have hask:=Po (w:=w) hf hu hx (keys:=keys) es.toList 0 (λj e hj=>by rw[AR,hg];exact h j e (by simpa using hj));simp at hask;have hask':(Instr.findAsking T (mk ka kc) es.toList).run P w=.ok ((mP kc keys es.size 0).map λj=>(j,(es.getD j default).val)) w:=by
  simp_all
 unfold Instr.findKey;simp only[dS,cZ hu,fB];cases ka with
 |true=>
  split
  ·rename_i r hr;cases he:es.toList with
   |nil=>
    have hsz:es.size=0:=by simp_all
    rw[he]at hr;simp only[Instr.findNow,pX]at hr;subst hr;simp[hsz,mP]
   |cons e l=>
    rw[he]at hr;unfold Instr.findNow at hr;have:Instr.sameNow d (mk true kc) e.key=none:=by
     cases d<;>first| (simp at hg;done)|rfl
    rw[this]at hr;cases hr
  ·exact hask'
 |false=>
  have hone:=hone rfl;obtain⟨k,hks,hkk⟩:∃k,ks=[k]/\((∃i,d=.int i/\k=.int)\/(d=.bool/\k=.bool)\/(d=.string/\k=.str)):=by
   split at hone
   ·exact⟨_,rfl,.inl ⟨_,rfl,rfl⟩⟩
   ·exact⟨_,rfl,.inr (.inl ⟨rfl,rfl⟩)⟩
   ·exact⟨_,rfl,.inr (.inr ⟨rfl,rfl⟩)⟩
   ·cases hone
  subst hks;have one:∀ys:List Value,iX [k] ys=true->∃y,ys=[y]/\k.fits y=true:=by
   intro ys hy
   match ys,hy with
   |[y],hy=>exact⟨y,rfl,by simpa[iX]using hy⟩
   |[],hy=>cases hy
   |_::_::_,hy=>simp[iX]at hy
  obtain⟨x,rfl,hx1⟩:=one kc hx;have hn:=Pm hkk hx1 (keys:=keys) es.toList 0 (λj e hj=>by
   obtain⟨p,q⟩:=h j e (by simpa using hj);obtain⟨y,hy,hy1⟩:=one _ q;exact⟨y,by rw[AR];exact hy,by rw[p,hy];rfl,hy1⟩)
  have:(mk false [x])=x:=rfl;rw[this,hn];simp only[oD,MQ];congr 2
  funext j
  simp[Array.getD];split<;>simp[*]
def BR :AV->Option (List Value)
 |.d (.v x)=>some [x]
 |.agg cs=>go cs
 |_=>none
where go:List AV->Option (List Value)
 |[]=>some []
 |.d (.v x)::r=>match go r with
  |some l=>some (x::l)
  |none=>none
 |_=>none
def yP :AV->Bool
 |.agg _=>true
 |.d (.agg _)=>true
 |_=>false
theorem QV {σ:Names}{I:Nat->Prop}{w:World}{x:AV}{v:Value}{kc:List Value}(h:BR x=some kc)(hv:RV σ I w x v):v=mk (yP x) kc:=by
 have go:∀(cs:List AV) (xs:List Value) (kc:List Value),BR.go cs=some kc->xs.length=cs.length->(∀(i:Nat) c x,cs[i]? =some c->xs[i]? =some x->RV σ I w c x)->xs=kc:=by
  intro cs;induction cs with
  |nil=>intro xs kc h hl _;cases h;exact kH hl
  |cons c cs ih=>
   intro xs kc h hl hr;cases xs with
   |nil=>cases hl
   |cons x xs=>
    unfold BR.go at h;split at h
    ·simp_all
    ·rename_i y r e;cases e;split at h
     ·rename_i l hl';cases h;rw[ih xs l hl' (by simpa using hl) (λi c x h1 h2=>hr (i+1) c x (by simpa using h1) (by simpa using h2))];rw[eF (hr 0 _ x rfl rfl)]
     ·cases h
    ·cases h
 unfold BR at h;split at h
 ·cases h;rw[eF hv];rfl
 ·rename_i cs;cases hv with
  |agg hl hr=>rw[go cs _ kc h hl hr];rfl
 ·cases h
def vA (va:Bool)(d:List D):AV:=if va then .agg (d.map .d)else .d (d.headD (.v undef))
def K2 (va:Bool)(zero:List D):Option (List D)->AV
 |some d=>vA va d
 |none=>vA va zero
theorem TC {σ:Names}{I:Nat->Prop}{w:World}{va:Bool}{d:List D}{xs:List Value}(hl:d.length=xs.length)(h:∀(j:Nat) c x,d[j]? =some c->xs[j]? =some x->RD I w c x):RV σ I w (vA va d) (mk va xs):=by
 cases va with
 |true=>
  refine .agg (by simpa using hl.symm) (λi c x h1 h2=>?_);simp at h1;obtain⟨y,hy,rfl⟩:=h1;exact .d (h i y x hy h2)
 |false=>
  match d,xs,hl with
  |[],[],_=>exact .d (.v _)
  |c::d,x::xs,_=>exact .d (h 0 c x rfl rfl)
def QE (mem:Mem):AV->Option (Option (Bool×List CK×Bool×(List Value->Option (List D)))×List Nat)
 |.d (.v (.map none))=>some (none,[])
 |.d (.mp ka ks va look)=>some (some (ka,ks,va,look),[])
 |.own b=>match mem b with
  |some (.map ka ks va look)=>some (some (ka,ks,va,look),[b])
  |_=>none
 |_=>none
def TF (I:Nat->Prop)(w:World)(ka:Bool)(ks:List CK)(va:Bool)(look:List Value->Option (List D))(v:Value):Prop:=
 ∃(n clock:Nat) (es:Array MapEntry) (keys vals:Nat->List Value),v=.map (some n)/\w.heap[n]? =some (.map es clock)/\
  (∀(i:Nat) e,es[i]? =some e->e.key=mk ka (keys i)/\e.val=mk va (vals i)/\iX ks (keys i)=true/\∃d,look (keys i)=some d/\d.length=(vals i).length)/\
  (∀(i j:Nat),i<es.size->j<es.size->keys i=keys j->i=j)/\(∀k d,look k=some d->∃i,i<es.size/\keys i=k)/\
  (∀(i:Nat) d (j:Nat) c x,i<es.size->look (keys i)=some d->d[j]? =some c->(vals i)[j]? =some x->RD I w c x)
def Tj (I:Nat->Prop)(w:World)(v:Value):Option (Bool×List CK×Bool×(List Value->Option (List D)))->Prop
 |none=>v=.map none
 |some (ka,ks,va,look)=>TF I w ka ks va look v
theorem Mf {σ:Names}{I:Nat->Prop}{w:World}{mem mr:Mem}{x:AV}{v:Value}{q}{rd:List Nat}(h:QE mem x=some (q,rd))(hv:RV σ I w x v)(hm:RM σ I w mr)(hr:∀b∈rd,∀k,mem b=some k->mr b=some k):Tj I w v q:=by
 unfold QE at h;split at h
 ·cases h;exact eF hv
 ·cases h;cases hv with
  |d hv=>
   cases hv with
   |mp keys vals hI hb hk hu hl hv=>exact⟨_,_,_,keys,vals,rfl,hb,hk,hu,hl,hv⟩
 ·rename_i b;split at h
  ·rename_i ka ks va look hb;cases h;obtain⟨y,hy,hrb,_⟩:=hm.blk b _ (hr b (by simp) _ hb);cases hv with
   |own h' _=>
    rw[hy]at h';cases h';cases hrb with
    |map keys vals hw _ hk hu hl hv=>exact⟨_,_,_,keys,vals,rfl,hw,hk,hu,hl,hv⟩
  ·cases h
 ·cases h
theorem TF.mP {I:Nat->Prop}{w:World}{ka va:Bool}{ks:List CK}{look:List Value->Option (List D)}{es:Array MapEntry}{keys vals:Nat->List Value}
  (hk:∀(i:Nat) e,es[i]? =some e->e.key=mk ka (keys i)/\e.val=mk va (vals i)/\iX ks (keys i)=true/\∃d,look (keys i)=some d/\d.length=(vals i).length)
  (hl:∀k d,look k=some d->∃i,i<es.size/\keys i=k) (kc:List Value):
  (∃i,AI.mP kc keys es.size 0=some i/\i<es.size/\keys i=kc/\∃d,look kc=some d/\d.length=(vals i).length)\/(AI.mP kc keys es.size 0=none/\look kc=none):=by
 cases hs:AI.mP kc keys es.size 0 with
 |some i=>
  have:=GY hs;simp_all
 |none=>
  refine .inr ⟨rfl,?_⟩;cases hq:look kc with
  |none=>rfl
  |some d=>
   obtain⟨i,hi,he⟩:=hl kc d hq;exact absurd he.symm (VF hs i (by omega) (by omega))
theorem Lg {ka:Bool}{ks:List CK}{kc:List Value}(h:iX ks kc=true):kc.length=ks.length:=by
 induction ks generalizing kc with
 |nil=>cases kc with
  |nil=>rfl
  |cons _ _=>cases h
 |cons k ks ih=>cases kc with
  |nil=>cases h
  |cons x xs=>simp only[iX,bL]at h;simp[ih h.2]
theorem zhD {ks:List CK}{kc:List Value}(h:iX ks kc=true):∀x∈kc,x.oneCell'=true:=by
 induction ks generalizing kc with
 |nil=>cases kc with
  |nil=>intro x hx;cases hx
  |cons _ _=>cases h
 |cons k ks ih=>cases kc with
  |nil=>cases h
  |cons y ys=>
   simp only[iX,bL]at h;intro x hx;rcases kD.1 hx with rfl|hx
   ·have:=h.1;cases k<;>cases x<;>first|rfl| (simp[CK.fits]at this;done)
   ·grind
theorem OT {P:Program}{w:World}{T:TypeId}{ka:Bool}{ks:List CK}(hK:DN P T ka ks){kc:List Value}(hx:iX ks kc=true)(empty:Bool):(Instr.checkKey empty 10000 T (mk ka kc)).run P w=.ok () w:=by
 obtain⟨hf,hkt,hl,hd⟩:=hK;split at hd
 case h_2=>exact hd.elim
 rename_i d hu;refine run_checkKey hkt (by rw[Lg (ka:=ka) hx,hl]) (λd' hd'=>?_) (λh=>?_) (zhD hx) empty
 ·simp_all
 ·have h1:=hd.2 h;have h2:=Lg (ka:=ka) hx;have:ks.length=1:=by
   split at h1<;>first|rfl|cases h1
  rw[this]at h2
  match kc,h2 with
  |[x],_=>exact⟨x,rfl⟩
def QG (te:TI)(ka:Bool)(ks:List CK)(mem:Mem)(x key:AV)(ok:Bool):Option (Prop×aN):=
 match QE mem x,BR key with
 |some (q,rd),some kc=>
  let zero:=te.zero.map D.v
  match q with
  |none=>if te.za=te.agg/\yP key=ka then some (iX ks kc=true,⟨if ok then .aU [vA te.agg zero,.d (.v (.bool false))]else vA te.agg zero,rd,[]⟩)else none
  |some (ka',ks',va,look)=>if te.za=te.agg/\va=te.agg/\ka'=ka/\ks'=ks/\yP key=ka then
    some (iX ks kc=true,⟨if ok then .aU [K2 va zero (look kc),.d (.v (.bool (look kc).isSome))]else K2 va zero (look kc),rd,[]⟩)else none
 |_,_=>none
theorem XN {P:Program}{T:TypeId}{ti:TI}(hT:aS P T=some ti){K E:TypeId}(hk:ti.k=.map K E):P.underlying T=some (.map K E):=by
 obtain⟨i,d,z,hi,hd,hz,rfl⟩:=jO hT;rw[hd];simp only at hk;cases d<;>simp[iS]at hk;obtain⟨rfl,rfl⟩:=hk;rfl
theorem M6 {P:Program}{w:World}{E:TypeId}{te:TI}(hE:aS P E=some te)(hza:te.za=te.agg):(zeroValue E).run P w=.ok (mk te.agg te.zero) w:=by
 obtain⟨i,d,z,hi,hd,hz,hte⟩:=jO hE;have h1:te.za=DP z:=by rw[hte]
 have h2:te.zero=z.cells.toList:=by rw[hte]
 have:z=mk te.agg te.zero:=by
  rw[<-hza,h1,h2];cases z<;>simp[DP,mk,Value.cells]
 rw[<-this];simp[zeroValue,typeInfo,hi,hz]
theorem zed {P:Program}{o:Oper}{T:TypeId}{x key:Operand}{ok:Bool}(ho:o.op=.lookup T x key ok)(tm:Nat->AV)(mem:Mem)(nm:Nat){ti te:TI}{K E:TypeId}(hT:aS P T=some ti)(hk:ti.k=.map K E)(hE:aS P E=some te){ka:Bool}{ks:List CK}(hK:DN P K ka ks)
  {sc:Prop} {e:aN} (he:QG te ka ks mem (ev tm x) (ev tm key) ok=some (sc,e)) (hsc:sc):bJ P o tm (e.mr mem) nm e.res (e.mw mem):=by
 unfold QG at he;split at he
 case h_2=>cases he
 rename_i q rd kc hq hkc;have hu:=XN hT hk;have tupR:∀{σ:Names} {I:Nat->Prop} {w:World} {r:AV} {v:Value} {b:Bool},RV σ I w r v->RV σ I w (.aU [r,.d (.v (.bool b))]) (.tuple #[v,.bool b]):=by
  intro σ I w r v b h;refine .aU (xs:=[v,.bool b]) rfl (λi c y h1 h2=>?_)
  match i,h1,h2 with
  |0,h1,h2=>simp at h1 h2;subst h1;subst h2;exact h
  |1,h1,h2=>simp at h1 h2;subst h1;subst h2;exact .d (.v _)
  |i+2,h1,h2=>simp at h1
 have hz:∀{σ:Names} {I:Nat->Prop} {w:World},RV σ I w (vA te.agg (te.zero.map D.v)) (mk te.agg te.zero):=by
  refine TC (by simp) (λj c x h1 h2=>?_);rw[jX,h2]at h1;cases h1;exact .v _
 simp only at he;split at he
 ·split at he
  ·rename_i hc;cases he;rw[aN.vC];refine bJ.pure λa w σ I h hm=>?_;have hvk:=QV hkc (dG (σ:=σ) (I:=I) (w:=w) (tm:=tm) (a:=a) (x:=key) λs e=>h s (by simp[ho,Op.operands,e]));have hx:=Mf hq (dG (σ:=σ) (I:=I) (w:=w) (tm:=tm) (a:=a) (x:=x) λs e=>h s (by simp[ho,Op.operands,e])) hm (λb hb k hk=>aN.kY hk (.inl hb));simp only[Tj]at hx;rw[hc.2]at hvk;have hck:=OT (w:=w) hK hsc;have hfk:=run_findKey (w:=w) hK hsc (keys:=λ_=>[]) (es:=#[]) (λj e h=>by simp at h);have hzr:=M6 (w:=w) hE hc.1;have hrun:(Instr.lookup T (a.eval x) (a.eval key) ok).run P w=.ok (if ok then .tuple #[mk te.agg te.zero,.bool false]else mk te.agg te.zero) w:=by
    rw[hx,hvk];simp only[Instr.lookup,dS,cZ hu,fB,pure_bind,hck,hfk];simp[mP,hzr]
   refine⟨_,by simp only[execOp,ho,dS,hrun,fB];rfl,?_⟩;cases ok with
   |true=>exact tupR hz
   |false=>exact hz
  ·cases he
 ·rename_i ka' ks' va look;split at he
  ·rename_i hc;obtain⟨c1,rfl,rfl,rfl,c5⟩:=hc;cases he;rw[aN.vC];refine bJ.pure λa w σ I h hm=>?_;have hvk:=QV hkc (dG (σ:=σ) (I:=I) (w:=w) (tm:=tm) (a:=a) (x:=key) λs e=>h s (by simp[ho,Op.operands,e]));have hx:=Mf hq (dG (σ:=σ) (I:=I) (w:=w) (tm:=tm) (a:=a) (x:=x) λs e=>h s (by simp[ho,Op.operands,e])) hm (λb hb k hk=>aN.kY hk (.inl hb));obtain⟨n,clock,es,keys,vals,hxv,hw,g1,g2,g3,g4⟩:=hx;rw[c5]at hvk;have hck:=λem=>OT (w:=w) hK hsc em;have hfk:=run_findKey (w:=w) hK hsc (keys:=keys) (es:=es) (λj e h=>⟨(g1 j e h).1,(g1 j e h).2.2.1⟩);have hzr:=M6 (w:=w) hE c1;have hg:(getObj n).run P w=.ok (.map es clock) w:=by simp[getObj,Sem.run,hw]
   rcases TF.mP (I:=I) (w:=w) g1 g3 kc with⟨i,s1,s2,s3,d,s4,s5⟩|⟨s1,s2⟩
   ·have hee:es[i]? =some es[i]:=uQ s2;have hval:(es.getD i default).val=mk te.agg (vals i):=by
     rw[show es.getD i default=es[i] by simp[Array.getD,s2]];exact(g1 i _ hee).2.1
    have hrun:(Instr.lookup T (a.eval x) (a.eval key) ok).run P w=.ok (if ok then .tuple #[mk te.agg (vals i),.bool true]else mk te.agg (vals i)) w:=by
     rw[hxv,hvk];simp only[Instr.lookup,dS,cZ hu,fB,hg,oD,hck,hfk,s1,tM,hval]
    refine⟨_,by simp only[execOp,ho,dS,hrun,fB];rfl,?_⟩;have hres:RV σ I w (vA te.agg d) (mk te.agg (vals i)):=TC s5 (λj c x h1 h2=>g4 i d j c x s2 (by rw[s3];exact s4) h1 h2);simp only[s4,K2,Option.isSome_some];cases ok with
    |true=>exact tupR hres
    |false=>exact hres
   ·have hrun:(Instr.lookup T (a.eval x) (a.eval key) ok).run P w=.ok (if ok then .tuple #[mk te.agg te.zero,.bool false]else mk te.agg te.zero) w:=by
     rw[hxv,hvk];simp only[Instr.lookup,dS,cZ hu,fB,hg,oD,hck,hfk,s1,Option.map_none,hzr]
    refine⟨_,by simp only[execOp,ho,dS,hrun,fB];rfl,?_⟩;simp only[s2,K2,Option.isSome_none];cases ok with
    |true=>exact tupR hz
    |false=>exact hz
  ·cases he
noncomputable def oS (look:List Value->Option (List D))(kc:List Value)(d:List D):List Value->Option (List D):=λk=>if k=kc then some d else look k
noncomputable def JY (te:TI)(ka:Bool)(ks:List CK)(mem:Mem)(m key x:AV):Option (Prop×aN):=
 match m,BR key,(cellsOf x).bind q8 with
 |.own b,some kc,some ds=>match mem b with
  |some (.map ka' ks' va look)=>if ka'=ka/\ks'=ks/\yP key=ka/\yP x=va then some (iX ks kc=true,⟨.d (.v undef),[],[(b,some (.map ka ks va (oS look kc ds)))]⟩)else none
  |_=>none
 |_,_,_=>none
theorem Fg {k:CK}{x:Value}(h:k.fits x=true)(n:Nat):Instr.sameBits n x x=true:=by
 cases k<;>cases x<;>first| (simp[CK.fits]at h;done)|skip
 ·cases n<;>simp[Instr.sameBits]
 ·cases n<;>simp[Instr.sameBits]
 ·rename_i s;have:(s==s)=true:=by rw[beq_toListBytes,SM];simp
  cases n<;>simp[Instr.sameBits,this]
theorem zbv {ks:List CK}{kc:List Value}(h:iX ks kc=true){ka:Bool}(h1:ka=false->∃k,ks=[k])(n:Nat):Instr.sameBits (n+1) (mk ka kc) (mk ka kc)=true:=by
 have key:∀(ks:List CK) (kc:List Value),iX ks kc=true->(kc.zip kc).all (λ(x,y)=>Instr.sameBits n x y)=true:=by
  intro ks;induction ks with
  |nil=>intro kc h;cases kc with
   |nil=>rfl
   |cons _ _=>cases h
  |cons k ks ih=>intro kc h;cases kc with
   |nil=>cases h
   |cons x xs=>
    simp only[iX,bL]at h;simp only[List.zip_cons_cons,yE,bL];exact⟨Fg h.1 n,ih xs h.2⟩
 cases ka with
 |true=>
  simp only[mk,fK,Instr.sameBits];simpa using key ks kc h
 |false=>
  obtain⟨k,rfl⟩:=h1 rfl
  match kc,h with
  |[x],h=>exact Fg (k:=k) (x:=x) (by simpa[iX]using h) (n+1)
  |[],h=>cases h
  |_::_::_,h=>simp[iX]at h
theorem zgl {P:Program}{T:TypeId}{ka:Bool}{ks:List CK}(h:DN P T ka ks):ka=false->∃k,ks=[k]:=by
 obtain⟨_,_,_,hd⟩:=h
 grind
theorem ND (look:List Value->Option (List D))(kc:List Value)(d:List D):oS look kc d kc=some d:=by simp[oS]
theorem GK {look:List Value->Option (List D)}{kc k:List Value}{d:List D}(h:k≠kc):oS look kc d k=look k:=by simp[oS,h]
theorem Z9 {σ:Names}{I:Nat->Prop}{w w':World}{ka va:Bool}{ks:List CK}{look:List Value->Option (List D)}{n clock:Nat}{es:Array MapEntry}{keys vals:Nat->List Value}
  (g0:∀(i:Nat) e,es[i]? =some e->e.born<clock) (g1:∀(i:Nat) e,es[i]? =some e->e.key=mk ka (keys i)/\e.val=mk va (vals i)/\iX ks (keys i)=true/\∃d,look (keys i)=some d/\d.length=(vals i).length)
  (g2:∀(i j:Nat),i<es.size->j<es.size->keys i=keys j->i=j) (g3:∀k d,look k=some d->∃i,i<es.size/\keys i=k)
  (g4:∀(i:Nat) d (j:Nat) c x,i<es.size->look (keys i)=some d->d[j]? =some c->(vals i)[j]? =some x->RD I w' c x)
  {kc:List Value} (hf:iX ks kc=true) {ds:List D} {xs:List Value} (hl:ds.length=xs.length) (hr:∀(j:Nat) c x,ds[j]? =some c->xs[j]? =some x->RD I w' c x):
  (∀i,mP kc keys es.size 0=some i->w'.heap[n]? =some (.map (es.modify i λe=>{e with key:=mk ka kc,val:=mk va xs}) clock)->RB σ I w' (.map ka ks va (oS look kc ds)) (.map (some n)))/\
  (mP kc keys es.size 0=none->w'.heap[n]? =some (.map (es.push {key:=mk ka kc,val:=mk va xs,born:=clock}) (clock+1))->RB σ I w' (.map ka ks va (oS look kc ds)) (.map (some n))):=by
 constructor
 ·intro i hs hw;obtain⟨_,hi,hki⟩:=GY hs;have hi:i<es.size:=by omega
  refine .map keys (λj=>if j=i then xs else vals j) hw (λj e hj=>by
   rw[TZ]at hj;split at hj
   ·grind
   ·exact g0 j e hj) (λj e hj=>?_) (λa b ha hb=>?_) (λk d hk=>?_) (λj d q c x hj hlk hc hx=>?_)
  ·rw[TZ]at hj;split at hj
   ·rename_i e';subst e';have hee:es[i]? =some es[i]:=uQ hi;rw[hee]at hj;simp at hj;subst hj;refine⟨by rw[hki],by simp,by rw[<-hki];exact hf,ds,?_,by simp[hl]⟩;rw[<-hki];exact ND _ _ _
   ·rename_i e';obtain⟨a1,a2,a3,d,a4,a5⟩:=g1 j e hj;have hjlt:=(qZ.1 hj).1;have hne:keys j≠kc:=λh=>e' (g2 i j hi hjlt (by rw[h,hki]));refine⟨a1,by simp[x9 e',a2],a3,d,?_,by simp[x9 e',a5]⟩;rw[GK hne];exact a4
  ·simp at ha hb;exact g2 a b ha hb
  ·simp;by_cases hkk:k=kc
   ·subst hkk;exact⟨i,hi,hki.symm⟩
   ·rw[GK hkk]at hk;exact g3 k d hk
  ·simp at hj;by_cases e':j=i
   ·subst e';rw[<-hki,ND]at hlk;cases hlk;simp at hx;exact hr q c x hc hx
   ·simp only[e']at hx;have hne:keys j≠kc:=λh=>e' (g2 j i hj hi (by rw[h,hki]));rw[GK hne]at hlk;exact g4 j d q c x hj hlk hc hx
 ·intro hs hw;have hno:∀j,j<es.size->keys j≠kc:=λj hj h=>VF hs j (by omega) (by omega) h.symm;refine .map (λj=>if j=es.size then kc else keys j) (λj=>if j=es.size then xs else vals j) hw (λj e hj=>by
   rw[Array.getElem?_push]at hj;split at hj
   ·cases hj;exact Nat.lt_succ_self _
   ·exact Nat.lt_succ_of_lt (g0 j e hj)) (λj e hj=>?_) (λa b ha hb=>?_) (λk d hk=>?_) (λj d q c x hj hlk hc hx=>?_)
  ·rw[Array.getElem?_push]at hj;split at hj
   ·rename_i e';cases hj;subst e';simp only[fK];exact⟨trivial,trivial,hf,ds,ND _ _ _,hl⟩
   ·rename_i e';obtain⟨a1,a2,a3,d,a4,a5⟩:=g1 j e hj;have hjlt:=(qZ.1 hj).1;simp only[e',iO];refine⟨a1,a2,a3,d,?_,a5⟩;rw[GK (hno j hjlt)];exact a4
  ·intro h;simp at ha hb;by_cases ea:a=es.size<;>by_cases eb:b=es.size
   ·omega
   ·simp only[ea,eb]at h;exact absurd h.symm (hno b (by omega))
   ·simp only[ea,eb]at h;exact absurd h (hno a (by omega))
   ·simp only[ea,eb,iO]at h;exact g2 a b (by omega) (by omega) h
  ·simp only[Array.size_push];by_cases hkk:k=kc
   ·exact⟨es.size,by omega,by simp[hkk]⟩
   ·rw[GK hkk]at hk;obtain⟨i,hi,he⟩:=g3 k d hk;exact⟨i,by omega,by simp[show i≠es.size by omega,he]⟩
  ·simp only[Array.size_push]at hj;by_cases e':j=es.size
   ·simp only[e',fK]at hlk hx;rw[ND]at hlk;cases hlk;exact hr q c x hc hx
   ·simp only[e',iO]at hlk hx;rw[GK (hno j (by omega))]at hlk;exact g4 j d q c x (by omega) hlk hc hx
theorem val_mk {σ:Names}{I:Nat->Prop}{w:World}{x:AV}{v:Value}{cs:List AV}(hv:RV σ I w x v)(hc:cellsOf x=some cs):v=mk (yP x) v.cells.toList:=by
 have one:∀{v:Value},v.oneCell'=true->v=mk false v.cells.toList:=λh=>by rw[Rb h];rfl
 cases hv with
 |agg hl hr=>simp[yP,mk,Value.cells]
 |d h=>
  cases h with
  |agg hl hr=>simp[yP,mk,Value.cells]
  |v y=>
   simp only[cellsOf]at hc;split at hc
   ·exact one ‹_›
   ·cases hc
  |_=>exact one rfl
 |any y=>cases hc
 |aU _ _=>cases hc
 |own _ h1=>exact one h1
 |sl _ hs=>cases hs<;>exact one rfl
 |_=>exact one rfl
theorem Iy {P:Program}{o:Oper}{T:TypeId}{m key x:Operand}(ho:o.op=.mapUpdate T m key x\/o.op=.insert T m key x)(tm:Nat->AV)(mem:Mem)(nm:Nat){ti te:TI}{K E:TypeId}(hT:aS P T=some ti)(hk:ti.k=.map K E){ka:Bool}{ks:List CK}(hK:DN P K ka ks)
  {sc:Prop} {e:aN} (he:JY te ka ks mem (ev tm m) (ev tm key) (ev tm x)=some (sc,e)) (hsc:sc):bJ P o tm (e.mr mem) nm e.res (e.mw mem):=by
 unfold JY at he;split at he
 case h_2=>cases he
 rename_i b kc ds hm0 hkc hds;split at he
 case h_2=>cases he
 rename_i ka' ks' va look hb;split at he
 case isFalse=>cases he
 rename_i hc;obtain⟨rfl,rfl,c3,c4⟩:=hc;cases he;have hu:=XN hT hk;refine bJ.skip λa w σ I h1 h h3 _=>?_;have hops:o.op.operands=#[m,key,x]:=by rcases ho with ho|ho<;>rw[ho]<;>rfl
 have hvk:=QV hkc (dG (σ:=σ) (I:=I) (w:=w) (tm:=tm) (a:=a) (x:=key) λs e=>h s (by simp[hops,e]));rw[c3]at hvk;have hvm:=dG (σ:=σ) (I:=I) (w:=w) (tm:=tm) (a:=a) (x:=m) λs e=>h s (by simp[hops,e]);have hvx:=dG (σ:=σ) (I:=I) (w:=w) (tm:=tm) (a:=a) (x:=x) λs e=>h s (by simp[hops,e]);rw[hm0]at hvm;obtain⟨cl,hcl,hds'⟩:=Option.bind_eq_some_iff.1 hds;obtain⟨v1,v2⟩:=JA hvx hcl;have hcd:=vY hds';subst hcd;have hvmk:a.eval x=mk va (a.eval x).cells.toList:=by rw[<-c4];exact val_mk hvx hcl
 obtain⟨y,hy,hrb,_⟩:=h3.blk b _ (aN.kY hb (.inr (by simp[wrote])));generalize hev:a.eval m=u at hvm;cases hvm with
 |own h' _=>
  rw[hy]at h';cases h';cases hrb with
  | @map _ _ _ _ n clock es keys vals hw g0 g1 g2 g3 g4=>
    have hck:=OT (w:=w) hK hsc false;have hfk:=run_findKey (w:=w) hK hsc (keys:=keys) (es:=es) (λj e h=>⟨(g1 j e h).1,(g1 j e h).2.2.1⟩);have hg:(getObj n).run P w=.ok (.map es clock) w:=by simp[getObj,Sem.run,hw]
    have hnI:¬I n:=by
     obtain⟨y',hy',_,hyn⟩:=h3.blk b _ (aN.kY hb (.inr (by simp[wrote])));rw[hy]at hy';cases hy';exact(hyn n rfl).2
    have fin:∀ob:Obj,(Instr.mapUpdate T (a.eval m) (a.eval key) (a.eval x)).run P w=.ok () {w with heap:=w.heap.setIfInBounds n ob}->
      RB σ I {w with heap:=w.heap.setIfInBounds n ob} (.map ka' ks' va (oS look kc ds)) (.map (some n))->
      ∃w' σ' I',(execOp a.eval o).run P w=.ok .skip w'/\eG σ I w ((aN.mk (.d (.v undef)) [] [(b,some (.map ka' ks' va (oS look kc ds)))]).mr mem) nm σ' I' w' ((aN.mk (.d (.v undef)) [] [(b,some (.map ka' ks' va (oS look kc ds)))]).mw mem):=by
     intro ob hrun hk;refine⟨_,σ,I,by rcases ho with ho|ho<;>simp only[execOp,ho,dS,hrun]<;>rfl,?_⟩;refine eG.write (w':={w with heap:=w.heap.setIfInBounds n ob}) (b:=b) h1 h3 (aN.kY hb (.inr (by simp[wrote]))) hy rfl (λj hj=>?_) (by simp) rfl rfl ⟨rfl,bY _⟩ hk GV;simp[vU (x9 hj)]
    have hlt:=(qZ.1 hw).1;have g4':∀ob:Obj,∀(i:Nat) d (j:Nat) c x,i<es.size->look (keys i)=some d->d[j]? =some c->(vals i)[j]? =some x->RD I {w with heap:=w.heap.setIfInBounds n ob} c x:=λob i d j c x q1 q2 q3 q4=>
     (g4 i d j c x q1 q2 q3 q4).mono (λk hk=>by simp[vU (show n≠k from λe=>hnI (e▸hk))]) (λ_ h=>h)
    have hr':∀ob:Obj,∀(j:Nat) c x',ds[j]? =some c->(a.eval x).cells.toList[j]? =some x'->RD I {w with heap:=w.heap.setIfInBounds n ob} c x':=λob j c x' q1 q2=>by
     have:=v2 j (.d c) x' (by simp[q1]) (by simpa using q2);exact(MM this).mono (λk hk=>by simp[vU (show n≠k from λe=>hnI (e▸hk))]) (λ_ h=>h)
    have hll:ds.length=(a.eval x).cells.toList.length:=by simpa using v1.symm
    cases hs:mP kc keys es.size 0 with
    |some i=>
     obtain⟨_,hi,hki⟩:=GY hs;have hi:i<es.size:=by omega
     have hek:es[i].key=mk ka' kc:=by rw[hki];exact(g1 i _ (uQ hi)).1
     refine fin (.map (es.modify i λe=>{e with key:=mk ka' kc,val:=mk va (a.eval x).cells.toList}) clock) ?_ ((Z9 (w:=w) (n:=n) (clock:=clock) g0 g1 g2 g3 (g4' _) hsc hll (hr' _)).1 i hs (by simp[hlt]));rw[hev,hvk]
     conv=>lhs;rw[hvmk]
     have hsb:=zbv hsc (zgl hK) 9999;simp only[Instr.mapUpdate,dS,cZ hu,fB,hg,hck,hfk,hs,tM,uQ hi,Option.getD_some,hek,Instr.keyThatStays,hsb,fK,oD];simp[setObj,Sem.run,hw]
    |none=>
     refine fin (.map (es.push {key:=mk ka' kc,val:=mk va (a.eval x).cells.toList,born:=clock}) (clock+1)) ?_ ((Z9 (w:=w) (n:=n) (clock:=clock) g0 g1 g2 g3 (g4' _) hsc hll (hr' _)).2 hs (by simp[hlt]));rw[hev,hvk]
     conv=>lhs;rw[hvmk]
     simp only[Instr.mapUpdate,dS,cZ hu,fB,hg,hck,hfk,hs,Option.map_none];simp[setObj,Sem.run,hw]
end Go.AI
namespace Go.AI
def aV (c:UInt8):List D:=[.v (.int .u8 c.toNat)]
def zmT (l:List UInt8):List (List D):=l.map aV
def JZ :List D->UInt8
 |[.v (.int .u8 n)]=>UInt8.ofNat n.toNat
 |_=>0
def IH :List D->Bool
 |[.v (.int .u8 _)]=>true
 |_=>false
def Rh (es:List (List D)):Prop:=∀e∈es,IH e=true
def CS (es:List (List D)):List UInt8:=es.map JZ
@[simp] theorem unB1_byteC (c:UInt8):JZ (aV c)=c:=by simp[JZ,aV]
@[simp] theorem zmy (l:List UInt8):CS (zmT l)=l:=by simp[CS,zmT,Function.comp_def]
@[simp] theorem zmU (l:List UInt8):Rh (l.map aV)=True:=eq_true (λe he=>by obtain⟨c,_,rfl⟩:=fU.1 he;rfl)
@[simp] theorem isB1_byteC (c:UInt8):IH (aV c)=true:=rfl
def LW (ks kd:K)(eb:Option K)(mem:Mem)(x:AV):Option (Prop×aN):=
 match kd,x with
 |.int k,.d (.v (.int _ n))=>some (True,⟨.d (.v (.int k (k.wrap n))),[],[]⟩)
 |.str,.d (.v (.string s))=>some (True,⟨.d (.v (.string s)),[],[]⟩)
 |.str,x=>match ks,eb,GQ 1 mem x with
  |.dX _,some (.int .u8),some (es,rd)=>some (Rh es,⟨.d (.v (.string ⟨(CS es).toArray⟩)),rd,[]⟩)
  |_,_,_=>none
 |_,_=>none
theorem Np {P:Program}{T:TypeId}{ti:TI}(hT:aS P T=some ti){k:IntKind}(hk:ti.k=.int k):P.underlying T=some (.int k):=by
 obtain⟨i,d,z,hi,hd,hz,rfl⟩:=jO hT;rw[hd];simp only at hk;cases d<;>simp[iS]at hk<;>simp[hk]
def nB :List D->Int
 |[.v (.int .u8 n)]=>n
 |_=>0
theorem Vj (e:List D):JZ e=UInt8.ofNat (nB e).toNat:=by
 unfold JZ nB;split<;>simp_all
theorem zfT {w:World}{I:Nat->Prop}{es:List (List D)}{v:Value}{a:Option Addr}{c:Nat}{val:Nat->Nat->Value}(h:oP I w 1 es v a c val)(hb:∀e∈es,IH e=true):
  l9 1 es.length val=es.map λe=>Value.int .u8 (nB e):=by
 apply JT;intro q;have hlen:=xU 1 es.length val;rcases y9 q es.length with hq|hq
 ·have h1:=Pf (sz:=1) (n:=es.length) (val:=val) (i:=q) (j:=0) hq (by omega);rw[Nat.mul_one,AX]at h1;have he:es[q]? =some es[q]:=bO hq;have hb1:=hb _ (mF hq);rw[h1,jX,he];generalize es[q]=E at hb1 he;unfold IH at hb1;split at hb1
  ·rename_i n;have hr:=h.rd q _ 0 _ he rfl;generalize hv:val q 0=vv at hr;cases hr;rfl
  ·cases hb1
 ·simp_all
theorem Fi {P:Program}{w:World}:∀(l:List (List D)) (s:ByteArray),(forIn (m:=Sem) (l.map λe=>Value.int .u8 (nB e)) s λc r=>
  match c with
  |.int .u8 n=>pure (ForInStep.yield (r.push (UInt8.ofNat n.toNat)))
  |_=>do
   stuck (α:=PUnit) "bytesToString: byte expected"
   pure (ForInStep.yield r)).run P w=.ok ⟨s.data++(CS l).toArray⟩ w
 |[],s=>by simp[CS]
 |e::l,s=>by
  simp only[kE,List.forIn_cons,dS,oD,fB,Fi l];congr 2
  apply Array.ext';simp[CS,Vj]
theorem run_bytesToString {P:Program}{w:World}{I:Nat->Prop}{es:List (List D)}{v:Value}{a:Option Addr}{c:Nat}{val:Nat->Nat->Value}(h:oP I w 1 es v a c val)(hb:∀e∈es,IH e=true):
  (Conv.bytesToString v).run P w=.ok (.string ⟨(CS es).toArray⟩) w:=by
 have hv:=h.v;subst hv;cases a with
 |none=>
  obtain⟨rfl,rfl⟩:=h.non rfl;simp;rfl
 |some ad=>
  have hfl:=h.flat rfl;have hlen:=xU 1 es.length val;rw[Nat.mul_one]at hlen;have hload:(loadCells ad es.length).run P w=.ok (l9 1 es.length val).toArray w:=by
   have:=run_loadCells_list (P:=P) w ad _ hfl
   rwa[hlen]at this
  rw[zfT h hb]at hload;have hp:=Fi (P:=P) (w:=w) es ByteArray.empty;simp only[Conv.bytesToString,hload,fB];simp_all
theorem zeo {P:Program}{o:Oper}{S T:TypeId}{x:Operand}(ho:o.op=.convert S T x)(tm:Nat->AV)(mem:Mem)(nm:Nat){ts td:TI}(hS:aS P S=some ts)(hT:aS P T=some td){eb:Option K}
  (hE:∀E,ts.k=.dX E->∀k,eb=some k->∃te,aS P E=some te/\te.k=k/\te.sz=1) {sc:Prop} {e:aN} (he:LW ts.k td.k eb mem (ev tm x)=some (sc,e)) (hsc:sc):bJ P o tm (e.mr mem) nm e.res (e.mw mem):=by
 have hwr:e.wr=[]:=by
  unfold LW at he
  grind
 have hmw:e.mw mem=e.mr mem:=by
  obtain⟨r,rd,wr⟩:=e;simp only at hwr;subst hwr;exact aN.vC _ _ _
 rw[hmw];obtain⟨ds,hds⟩:∃d,P.underlying S=some d:=by obtain⟨i,d,z,hi,hd,hz,rfl⟩:=jO hS;exact⟨d,hd⟩
 refine bJ.pure λa w σ I h hm=>?_;have hv:=dG (σ:=σ) (I:=I) (w:=w) (tm:=tm) (a:=a) (x:=x) λs e=>h s (by simp[ho,Op.operands,e]);have fin:∀v,(convert S T (a.eval x)).run P w=.ok v w->RV σ I w e.res v->∃v,(execOp a.eval o).run P w=.ok (.value v) w/\RV σ I w e.res v:=
  λv h1 h2=>⟨v,by simp[execOp,ho,h1],h2⟩
 revert he hv fin hm;generalize ev tm x=A;intro he hm hv fin;unfold LW at he;split at he
 ·rename_i k k' n hk;cases he;have hu:=Np hT hk;rw[eF hv]at fin;refine fin (.int k (k.wrap n)) ?_ (.d (.v _));simp[convert,cZ hds,cZ hu,Conv.intToInt]
 ·rename_i s hk;cases he;have hu:=J7 hT hk;rw[eF hv]at fin;refine fin (.string s) ?_ (.d (.v _));simp only[convert,dS,cZ hds,cZ hu,fB];rfl
 ·rename_i hk _;have hu:=J7 hT hk;split at he
  ·rename_i E es rd hks hsrc;cases he;have hus:=uU hS hks;obtain⟨te,hte,hkb,hsz⟩:=hE E hks _ rfl;have hub:=Np hte hkb;obtain⟨a1,c1,val1,hl⟩:=Dc hsrc (λe he=>by
    have:=hsc e he;unfold IH at this;split at this
    ·rfl
    ·cases this) hv hm (λb hb k hk=>aN.kY hk (.inl hb))
   have hrun:=run_bytesToString (P:=P) hl hsc;refine fin _ ?_ (.d (.v _));have hlv:=hl.v;generalize a.eval x=u at hlv hrun;subst hlv;simp only[convert,dS,cZ hus,cZ hu,cZ hub,fB,hrun]
  ·cases he
 ·cases he
def KJ (op:BinOp):AV->AV->Option (Prop×aN)
 |.d (.v (.int k a)),.d (.v (.int _ b))=>match op with
  |.shl=>some (0<=b,⟨.d (.v (.int k (k.wrap (a*2^(min b.toNat k.bits))))),[],[]⟩)
  |.shr=>some (0<=b,⟨.d (.v (.int k (a.fdiv (2^(min b.toNat k.bits))))),[],[]⟩)
  |_=>none
 |_,_=>none
inductive NK where
 |s|p|i|f|m
 deriving DecidableEq
def K.nk :K->Option NK
 |.dX _=>some .s
 |.ptr _=>some .p
 |.iface _=>some .i
 |.func=>some .f
 |.map _ _=>some .m
 |_=>none
def YE :NK->Value->Bool
 |.s,.slice none 0 0=>true
 |.p,.pointer none=>true
 |.i,.nilIface=>true
 |.f,.nilFunc=>true
 |.m,.map none=>true
 |_,_=>false
def PW (mem:Mem):AV->Option (NK×Option Bool×List Nat)
 |.d (.v (.slice none _ _))=>some (.s,some true,[])
 |.d (.v (.pointer none))=>some (.p,some true,[])
 |.d (.v (.pointer (some _)))=>some (.p,some false,[])
 |.d (.v .nilIface)=>some (.i,some true,[])
 |.d (.v (.iface _ _))=>some (.i,some false,[])
 |.d (.v .nilFunc)=>some (.f,some true,[])
 |.d (.v (.func _ _ _))=>some (.f,some false,[])
 |.d (.v (.map none))=>some (.m,some true,[])
 |.d (.ro _ [])=>some (.s,none,[])
 |.d (.ro _ (_::_))=>some (.s,some false,[])
 |.d (.fn _ _ _)=>some (.f,some false,[])
 |.d (.bE _)=>some (.p,some false,[])
 |.d (.gB _ _)=>some (.i,some false,[])
 |.d (.mp _ _ _ _)=>some (.m,some false,[])
 |.ptr _ _=>some (.p,some false,[])
 |.gR _ _ _ _=>some (.p,some false,[])
 |.fn _ _ _=>some (.f,some false,[])
 |.gB _ _=>some (.i,some false,[])
 |.own b=>match mem b with
  |some (.grow _ [] _)=>some (.s,none,[b])
  |some (.grow _ (_::_) _)=>some (.s,some false,[b])
  |some (.map _ _ _ _)=>some (.m,some false,[b])
  |_=>none
 |_=>none
def PY (op:BinOp)(r:Option Bool):Option AV:=
 match op,r with
 |.eql,some b=>some (.d (.v (.bool b)))
 |.neq,some b=>some (.d (.v (.bool (!b))))
 |.eql,none=>some .ab
 |.neq,none=>some .ab
 |_,_=>none
def PX (op:BinOp)(y:Operand)(k:K)(mem:Mem)(x:AV):Option (Prop×aN):=
 match y with
 |.const c=>match k.nk,PW mem x with
  |some t,some (t',r,rd)=>if t=t'/\YE t c=true then match PY op r with
    |some v=>some (True,⟨v,rd,[]⟩)
    |none=>none
   else none
  |_,_=>none
 |_=>none
theorem zdZ {P:Program}{o:Oper}{op:BinOp}{T T':TypeId}{x y:Operand}(ho:o.op=.binOp op T x y T')(tm:Nat->AV)(mem:Mem)(nm:Nat){sc:Prop}{e:aN}(he:KJ op (ev tm x) (ev tm y)=some (sc,e))(hsc:sc):bJ P o tm (e.mr mem) nm e.res (e.mw mem):=by
 have hwr:e.wr=[]:=by
  unfold KJ at he
  grind
 have hmw:e.mw mem=e.mr mem:=by
  obtain⟨r,rd,wr⟩:=e;simp only at hwr;subst hwr;exact aN.vC _ _ _
 rw[hmw];refine bJ.pure λa w σ I h hm=>?_;have hx:=dG (σ:=σ) (I:=I) (w:=w) (tm:=tm) (a:=a) (x:=x) λs e=>h s (by simp[ho,Op.operands,e]);have hy:=dG (σ:=σ) (I:=I) (w:=w) (tm:=tm) (a:=a) (x:=y) λs e=>h s (by simp[ho,Op.operands,e])
 have fin:∀v,(do eqGuard op T x y (a.eval x) (a.eval y);binOp op T (a.eval x) (a.eval y):Sem Value).run P w=.ok v w->RV σ I w e.res v->
   ∃v,(execOp a.eval o).run P w=.ok (.value v) w/\RV σ I w e.res v:=by
  intro v h1 h2;refine⟨v,?_,h2⟩;simp only[execOp,ho,dS,h1];rfl
 revert he hx hy fin hm;generalize ev tm x=A;generalize ev tm y=B;intro he hm hx hy fin;unfold KJ at he;split at he
 ·rename_i k p k' q;rw[eF hx,eF hy]at fin;split at he
  ·cases he;refine fin _ ?_ (.d (.v _));have hq:¬q<0:=by omega
   simp[eqGuard,binOp,Op.shift,hq]
  ·cases he;refine fin _ ?_ (.d (.v _));have hq:¬q<0:=by omega
   simp[eqGuard,binOp,Op.shift,hq]
  ·cases he
 ·cases he
section
variable {P : Program} {w : World} {T : TypeId}
theorem EZ {x:Operand}{u c:Value}{b:Bool}(hg:∀op,eqGuard op T x (.const c) u c=pure ()\/(eqGuard op T x (.const c) u c).run P w=.ok () w)(he:(Op.equal T u c).run P w=.ok b w)
  (h1:binOp .eql T u c=(do pure (.bool (<-Op.equal T u c)))) (h2:binOp .neq T u c=(do pure (.bool (!(<-Op.equal T u c))))) (op:BinOp) (hop:op=.eql\/op=.neq):
  (do eqGuard op T x (.const c) u c;binOp op T u c:Sem Value).run P w=.ok (.bool (if op=.eql then b else !b)) w:=by
 have hg':∀op,(eqGuard op T x (.const c) u c).run P w=.ok () w:=λop=>by rcases hg op with h|h;rw[h];rfl;exact h
 rcases hop with rfl|rfl
 all_goals simp_all
theorem zh9 {E:TypeId}(hd:P.underlying T=some (.slice E))(d:Nat)(a:Option Addr)(n m:Nat):(Op.equalIn (d+1) T (.slice a n m) (.slice none 0 0)).run P w=.ok a.isNone w:=by
 cases a<;>simp[Op.equalIn,cZ hd]
theorem zia {E:TypeId}(hd:P.underlying T=some (.pointer E))(d:Nat)(a:Option Addr):(Op.equalIn (d+1) T (.pointer a) (.pointer none)).run P w=.ok a.isNone w:=by
 cases a<;>simp[Op.equalIn,cZ hd]
theorem zic {K E:TypeId}(hd:P.underlying T=some (.map K E))(d:Nat)(a:Option Nat):(Op.equalIn (d+1) T (.map a) (.map none)).run P w=.ok a.isNone w:=by
 cases a<;>simp[Op.equalIn,cZ hd]
theorem Pu {ps rs:Array TypeId}{v:Bool}(hd:P.underlying T=some (.func ps rs v))(d:Nat):(Op.equalIn (d+1) T .nilFunc .nilFunc).run P w=.ok true w/\∀f a c,(Op.equalIn (d+1) T (.func f a c) .nilFunc).run P w=.ok false w:=by
 constructor
 ·simp[Op.equalIn,cZ hd]
 ·intro f a c;simp[Op.equalIn,cZ hd]
theorem Pt {ms:Array (String×TypeId)}(hd:P.underlying T=some (.interface ms))(d:Nat):(Op.equalIn (d+1) T .nilIface .nilIface).run P w=.ok true w/\∀t y,(Op.equalIn (d+1) T (.iface t y) .nilIface).run P w=.ok false w:=by
 constructor
 ·simp[Op.equalIn,cZ hd]
 ·intro f a;simp[Op.equalIn,cZ hd]
end
inductive EB (w:World):NK->Option Bool->Value->Prop
 |s {a:Option Addr} {n m:Nat} {r:Option Bool} (h:r=none\/r=some a.isNone):EB w .s r (.slice a n m)
 |p {a:Option Addr} {r:Option Bool} (h:r=none\/r=some a.isNone):EB w .p r (.pointer a)
 |i0:EB w .i (some true) .nilIface
 |i1 {t:TypeId} {y:Value}:EB w .i (some false) (.iface t y)
 |f0:EB w .f (some true) .nilFunc
 |f1 {f:Fn} {a c:Array Value}:EB w .f (some false) (.func f a c)
 |m {a:Option Nat} {r:Option Bool} (h:r=none\/r=some a.isNone):EB w .m r (.map a)
theorem zeR {σ:Names}{I:Nat->Prop}{w:World}{mem mr:Mem}{x:AV}{t:NK}{r:Option Bool}{rd:List Nat}(h:PW mem x=some (t,r,rd)){u:Value}(hu:RV σ I w x u)(hm:RM σ I w mr)(hr:∀b∈rd,∀k,mem b=some k->mr b=some k):EB w t r u:=by
 unfold PW at h;split at h<;>first
  | (cases h;rw[eF hu];first|exact .s (.inr rfl)|exact .p (.inr rfl)|exact .i0|exact .i1|exact .f0|exact .f1|exact .m (.inr rfl))
  |skip
 ·cases h;cases hu with
  |d hu=>cases hu<;>exact .s (.inl rfl)
 ·cases h;cases hu with
  |d hu=>cases hu;exact .s (.inr rfl)
 ·cases h;cases hu with
  |d hu=>cases hu;exact .f1
 ·cases h;cases hu with
  |d hu=>cases hu;exact .p (.inr rfl)
 ·cases h;cases hu with
  |d hu=>cases hu;exact .i1
 ·cases h;cases hu with
  |d hu=>cases hu;exact .m (.inr rfl)
 ·cases h;cases hu;exact .p (.inr rfl)
 ·cases h;cases hu;exact .p (.inr rfl)
 ·cases h;cases hu;exact .f1
 ·cases h;cases hu;exact .i1
 ·rename_i b;split at h
  ·rename_i z T hb;cases h;obtain⟨y,hy,hrb⟩:=hm.grow (hr b (by simp) _ hb);cases hu with
   |own h' _=>
    rw[hy]at h';cases h';rcases hrb with⟨rfl,_⟩|⟨_,rfl,_⟩|⟨_,_,_,rfl,_⟩<;>exact .s (.inl rfl)
  ·rename_i z e es T hb;cases h;obtain⟨y,hy,hrb⟩:=hm.grow (hr b (by simp) _ hb);cases hu with
   |own h' _=>
    rw[hy]at h';cases h';rcases hrb with⟨_,h⟩|⟨_,_,h⟩|⟨_,_,_,rfl,_⟩
    ·cases h
    ·cases h
    ·exact .s (.inr rfl)
  ·rename_i ka ks va look hb;cases h;obtain⟨y,hy,hrb,_⟩:=hm.blk b _ (hr b (by simp) _ hb);cases hu with
   |own h' _=>
    rw[hy]at h';cases h';cases hrb;exact .m (.inr rfl)
  ·cases h
 ·cases h
theorem PT {P:Program}{o:Oper}{op:BinOp}{T T':TypeId}{x y:Operand}(ho:o.op=.binOp op T x y T')(tm:Nat->AV)(mem:Mem)(nm:Nat){ti:TI}(hT:aS P T=some ti){sc:Prop}{e:aN}(he:PX op y ti.k mem (ev tm x)=some (sc,e)):bJ P o tm (e.mr mem) nm e.res (e.mw mem):=by
 unfold PX at he;split at he
 case h_2=>cases he
 rename_i c;split at he
 case h_2=>cases he
 rename_i t t' r rd hkt hn;split at he
 case isFalse=>cases he
 rename_i hc;obtain⟨rfl,hcn⟩:=hc;split at he
 case h_2=>cases he
 rename_i v hv;cases he;rw[aN.vC];refine bJ.pure λa w σ I h hm=>?_;have hx:=dG (σ:=σ) (I:=I) (w:=w) (tm:=tm) (a:=a) (x:=x) λs e=>h s (by simp[ho,Op.operands,e]);have hnv:=zeR hn hx hm (λb hb k hk=>aN.kY hk (.inl hb));obtain⟨i,d,z,hi,hd,hz,hti⟩:=jO hT;have hk:ti.k=iS d:=by rw[hti]
 rw[hk]at hkt;have hop:op=.eql\/op=.neq:=by
  unfold PY at hv;split at hv<;>first|exact .inl rfl|exact .inr rfl|cases hv
 have fin:∀b:Bool,(r=none\/r=some b)->(do eqGuard op T x (.const c) (a.eval x) c;binOp op T (a.eval x) c:Sem Value).run P w=.ok (.bool (if op=.eql then b else !b)) w->
   ∃v',(execOp a.eval o).run P w=.ok (.value v') w/\RV σ I w v v':=by
  intro b hb h1;refine⟨.bool (if op=.eql then b else !b),?_,?_⟩
  ·have ec:a.eval (.const c)=c:=rfl;simp only[execOp,ho,ec,dS];simp at h1;rw[h1];rfl
  ·unfold PY at hv;rcases hb with rfl|rfl<;>rcases hop with rfl|rfl<;>simp only[pX]at hv<;>subst hv
   ·exact .ab _
   ·exact .ab _
   ·exact .d (.v _)
   ·exact .d (.v _)
 unfold YE at hcn;generalize hu:a.eval x=u at hnv fin;clear hx hu;cases hnv with
 | @s aa n m r hb=>
   split at hcn<;>first| (cases‹NK.s=_›;done)| (cases hcn;done)|skip
   cases d<;>simp[iS,K.nk]at hkt;exact fin aa.isNone hb (EZ (λop=>.inr (by cases op<;>simp[eqGuard])) (zh9 hd 9999 aa n m) rfl rfl op hop)
 | @p aa r hb=>
   split at hcn<;>first| (cases‹NK.p=_›;done)| (cases hcn;done)|skip
   cases d<;>simp[iS,K.nk]at hkt;exact fin aa.isNone hb (EZ (λop=>.inr (by cases op<;>simp[eqGuard])) (zia hd 9999 aa) rfl rfl op hop)
 |i0=>
  split at hcn<;>first| (cases‹NK.i=_›;done)| (cases hcn;done)|skip
  cases d<;>simp[iS,K.nk]at hkt;exact fin true (.inr rfl) (EZ (λop=>.inr (by cases op<;>simp[eqGuard])) (Pt hd 9999).1 rfl rfl op hop)
 |i1=>
  split at hcn<;>first| (cases‹NK.i=_›;done)| (cases hcn;done)|skip
  cases d<;>simp[iS,K.nk]at hkt;exact fin false (.inr rfl) (EZ (λop=>.inr (by cases op<;>simp[eqGuard])) ((Pt hd 9999).2 _ _) rfl rfl op hop)
 |f0=>
  split at hcn<;>first| (cases‹NK.f=_›;done)| (cases hcn;done)|skip
  cases d<;>simp[iS,K.nk]at hkt;exact fin true (.inr rfl) (EZ (λop=>.inr (by cases op<;>simp[eqGuard])) (Pu hd 9999).1 rfl rfl op hop)
 |f1=>
  split at hcn<;>first| (cases‹NK.f=_›;done)| (cases hcn;done)|skip
  cases d<;>simp[iS,K.nk]at hkt;exact fin false (.inr rfl) (EZ (λop=>.inr (by cases op<;>simp[eqGuard])) ((Pu hd 9999).2 _ _ _) rfl rfl op hop)
 | @m aa r hb=>
   split at hcn<;>first| (cases‹NK.m=_›;done)| (cases hcn;done)|skip
   cases d<;>simp[iS,K.nk]at hkt;exact fin aa.isNone hb (EZ (λop=>.inr (by cases op<;>simp[eqGuard])) (zic hd 9999 aa) rfl rfl op hop)
def SA (k:K):AV->Option (Prop×aN)
 |.d (.v (.slice none 0 0))=>match k with|.dX _=>some (True,⟨.d (.v (.int .i64 0)),[],[]⟩)|_=>none
 |.d (.ro true es)=>match k with|.dX _=>some (True,⟨.d (.v (.int .i64 es.length)),[],[]⟩)|_=>none
 |_=>none
theorem zeq {P:Program}{o:Oper}{c:Call}(ho:o.op=.call c)(hc:c.callee=.builtin .cap)(tm:Nat->AV)(mem:Mem)(nm:Nat){T:TypeId}(hT:c.argTypes[0]? =some T){ti:TI}(hti:aS P T=some ti){x:Operand}(hx:c.args[0]? =some x){sc:Prop}{e:aN}
  (he:SA ti.k (ev tm x)=some (sc,e)):bJ P o tm (e.mr mem) nm e.res (e.mw mem):=by
 have hmem:x∈c.args.toList:=by
  grind
 have hxe:∀a:Act,(c.args.map a.eval)[0]? =some (a.eval x):=λa=>by simp[hx]
 unfold SA at he;split at he
 ·rename_i hxx;split at he
  ·rename_i E hk;cases he;rw[aN.vC];refine bJ.pure λa w σ I h hm=>?_;have hv:=dG (σ:=σ) (I:=I) (w:=w) (tm:=tm) (a:=a) (x:=x) λs e=>h s (by subst e;simp[ho,Op.operands,Call.operands,hc];simpa using hmem);rw[hxx]at hv;have hu:=uU hti hk;exact⟨.int .i64 0,by simp[execOp,ho,resolve,hc,invoke,builtin,Builtin.cap_,hT,hxe,eF hv,cZ hu,goInt],.d (.v _)⟩
  ·cases he
 ·rename_i es hxx;split at he
  ·rename_i E hk;cases he;rw[aN.vC];refine bJ.pure λa w σ I h hm=>?_;have hv:=dG (σ:=σ) (I:=I) (w:=w) (tm:=tm) (a:=a) (x:=x) λs e=>h s (by subst e;simp[ho,Op.operands,Call.operands,hc];simpa using hmem);rw[hxx]at hv;have hu:=uU hti hk;have hxa:=hxe a;have:∃ad n,a.eval x=.slice ad n es.length:=by
    generalize a.eval x=u at hv;cases hv with
    |d hv=>
     cases hv with
     |nil=>exact⟨_,_,rfl⟩
     |emp=>exact⟨_,_,rfl⟩
     |ro _ _ _ _ _ hfc _ _ _=>rw[hfc rfl];exact⟨_,_,rfl⟩
   obtain⟨ad,n,he'⟩:=this;rw[he']at hxa;exact⟨.int .i64 es.length,by simp[execOp,ho,resolve,hc,invoke,builtin,Builtin.cap_,hT,hxa,cZ hu,goInt],.d (.v _)⟩
  ·cases he
 ·cases he
def NU (assertsIface:Bool)(T:TypeId)(te:TI)(ok:Bool):AV->Option (Prop×aN)
 |.gB t x=>if assertsIface=false/\te.za=te.agg then
   if t=T then some (True,⟨if ok then .aU [x,.d (.v (.bool true))]else x,[],[]⟩)
   else if ok then some (True,⟨.aU [vA te.agg (te.zero.map D.v),.d (.v (.bool false))],[],[]⟩)else none
  else none
 |.d (.gB t x)=>if assertsIface=false/\te.za=te.agg then
   if t=T then some (True,⟨if ok then .aU [.d x,.d (.v (.bool true))]else .d x,[],[]⟩)
   else if ok then some (True,⟨.aU [vA te.agg (te.zero.map D.v),.d (.v (.bool false))],[],[]⟩)else none
  else none
 |_=>none
theorem zdX {P:Program}{o:Oper}{S T:TypeId}{x:Operand}{ok:Bool}(ho:o.op=.typeAssert x S T ok)(tm:Nat->AV)(mem:Mem)(nm:Nat){te:TI}(hT:aS P T=some te){ai:Bool}(hai:ai=false->∀b,te.k≠ .iface b){sc:Prop}{e:aN}
  (he:NU ai T te ok (ev tm x)=some (sc,e)):bJ P o tm (e.mr mem) nm e.res (e.mw mem):=by
 obtain⟨i,d,z,hi,hd,hz,hti⟩:=jO hT;have tupR:∀{σ:Names} {I:Nat->Prop} {w:World} {r:AV} {v:Value} {b:Bool},RV σ I w r v->RV σ I w (.aU [r,.d (.v (.bool b))]) (.tuple #[v,.bool b]):=by
  intro σ I w r v b h;refine .aU (xs:=[v,.bool b]) rfl (λi c y h1 h2=>?_)
  match i,h1,h2 with
  |0,h1,h2=>simp at h1 h2;subst h1;subst h2;exact h
  |1,h1,h2=>simp at h1 h2;subst h1;subst h2;exact .d (.v _)
  |i+2,h1,h2=>simp at h1
 have hz':∀{σ:Names} {I:Nat->Prop} {w:World},RV σ I w (vA te.agg (te.zero.map D.v)) (mk te.agg te.zero):=by
  refine TC (by simp) (λj c x h1 h2=>?_);rw[jX,h2]at h1;cases h1;exact .v _
 have yes:∀{w:World} (t:TypeId) (v:Value),ai=false->t=T->(Instr.typeAssert (.iface t v) S T ok).run P w=.ok (if ok then .tuple #[v,.bool true]else v) w:=by
  intro w t v h1 h2;have hne:=hai h1;rw[hti]at hne;simp only[Instr.typeAssert,dS,cZ hd];cases d<;>first| (exact absurd rfl (hne _))| (cases ok<;>simp[h2])
 have no:∀{w:World} (t:TypeId) (v:Value),ai=false->te.za=te.agg->t≠T->ok=true->(Instr.typeAssert (.iface t v) S T ok).run P w=.ok (.tuple #[mk te.agg te.zero,.bool false]) w:=by
  intro w t v h1 h3 h2 h4;have hne:=hai h1;have hzm:=M6 (w:=w) hT h3;rw[hti]at hne;simp only[Instr.typeAssert,dS,cZ hd,fB];cases d<;>first| (exact absurd rfl (hne _))| (simp[h2,h4,hzm])
 have main:∀(t:TypeId) (r:AV),(if ai=false/\te.za=te.agg then
   if t=T then some (True,(⟨if ok then .aU [r,.d (.v (.bool true))]else r,[],[]⟩:aN))
   else if ok then some (True,⟨.aU [vA te.agg (te.zero.map D.v),.d (.v (.bool false))],[],[]⟩)else none
  else none)=some (sc,e)->(∀{a:Act} {w:World} {σ:Names} {I:Nat->Prop},RV σ I w (ev tm x) (a.eval x)->∃v,a.eval x=.iface t v/\RV σ I w r v)->bJ P o tm (e.mr mem) nm e.res (e.mw mem):=by
  intro t r he hr;split at he
  ·rename_i hc;split at he
   ·rename_i hte;cases he;rw[aN.vC];refine bJ.pure λa w σ I h hm=>?_;obtain⟨v,hv1,hv2⟩:=hr (dG (σ:=σ) (I:=I) (w:=w) (tm:=tm) (a:=a) (x:=x) λs e=>h s (by simp[ho,Op.operands,e]));refine⟨_,by simp only[execOp,ho,hv1,dS,yes t v hc.1 hte,fB];rfl,?_⟩;cases ok with
    |true=>exact tupR hv2
    |false=>exact hv2
   ·rename_i hte;split at he
    ·rename_i hok;cases he;rw[aN.vC];refine bJ.pure λa w σ I h hm=>?_;obtain⟨v,hv1,hv2⟩:=hr (dG (σ:=σ) (I:=I) (w:=w) (tm:=tm) (a:=a) (x:=x) λs e=>h s (by simp[ho,Op.operands,e]));exact⟨_,by simp only[execOp,ho,hv1,dS,no t v hc.1 hc.2 hte hok,fB];rfl,tupR hz'⟩
    ·cases he
  ·cases he
 unfold NU at he;split at he
 ·rename_i t r hx;refine main t r he (λ{a w σ I} hv=>?_);rw[hx]at hv;generalize a.eval x=u at hv;cases hv with
  |gB h=>exact⟨_,rfl,h⟩
 ·rename_i t r hx;refine main t (.d r) he (λ{a w σ I} hv=>?_);rw[hx]at hv;generalize a.eval x=u at hv;cases hv with
  |d hv=>cases hv with
   |gB h=>exact⟨_,rfl,.d h⟩
 ·cases he
def QF (te:TI)(E:TypeId)(nm:Nat):AV->AV->Option (Prop×aN)
 |.d (.v (.int _ n)),.d (.v (.int _ m))=>if te.zero.length=te.sz then
   some (0<=n/\n<=m/\m*te.bytes<=281474976710656/\m<=9223372036854775807,⟨.own nm,[],[(nm,some (.grow te.sz (List.replicate n.toNat (te.zero.map D.v)) E))]⟩)else none
 |_,_=>none
theorem zbF {P:Program}{w:World}{t e:TypeId}{i:TypeInfo}{z:Value}(ht:P.underlying t=some (.slice e))(hi:P.info? e=some i)(hz:i.zero=some z){k1 k2:IntKind}{n m:Int}(c1:0<=n)(c2:n<=m)(c3:m*i.bytes<=281474976710656)(c4:m<=9223372036854775807):
  (Instr.makeSlice t (.int k1 n) (.int k2 m)).run P w=.ok (.slice (some ⟨w.heap.size,0,none⟩) n.toNat m.toNat) (w.alloc (.cells ((Array.range (m.toNat*i.size)).map (z.cells[· %z.cells.size]!)) e (0,0))):=by
 have hwn:IntKind.i64.wrap n=n:=M0 n ⟨by omega,by omega⟩;have hwm:IntKind.i64.wrap m=m:=M0 m ⟨by omega,by omega⟩;have h1:¬m<0:=by omega
 have h2:¬((281474976710656:Int)<i.bytes*m):=by grind
 have h3:¬n<0:=by omega
 have h4:¬m<n:=by omega
 by_cases h0:m.toNat*i.size=0
 ·have e0:(Array.range (m.toNat*i.size)).map (z.cells[· %z.cells.size]!)=#[]:=by rw[h0];simp
  rw[e0];simp[Instr.makeSlice,cZ ht,asInt,asIntOf,typeInfo,hi,hwn,hwm,h1,h2,h3,h4,sizeOf,h0,newRow];congr 2
  all_goals first|rfl| (apply Array.ext';simp)
 ·simp[Instr.makeSlice,cZ ht,asInt,asIntOf,typeInfo,hi,hwn,hwm,h1,h2,h3,h4,sizeOf,h0,zeroValue,hz,newRow]
theorem zd9 {P:Program}{o:Oper}{T:TypeId}{l c:Operand}(ho:o.op=.makeSlice T l c)(tm:Nat->AV)(mem:Mem)(nm:Nat){ti te:TI}{E:TypeId}(hT:aS P T=some ti)(hk:ti.k=.dX E)(hE:aS P E=some te)(hone:∀x∈te.zero,x.oneCell'=true){sc:Prop}{e:aN}
  (he:QF te E nm (ev tm l) (ev tm c)=some (sc,e)) (hsc:sc):bJ P o tm (e.mr mem) nm e.res (e.mw mem):=by
 unfold QF at he;split at he
 case h_2=>cases he
 rename_i k1 n k2 m hl hc;split at he
 case isFalse=>cases he
 rename_i hzl;cases he;obtain⟨c1,c2,c3,c4⟩:=hsc;refine bJ.val λa w σ I hib h hm hfree=>?_;have hu:=uU hT hk;obtain⟨i,d,z,hi,hd,hz,hte⟩:=jO hE;have hvl:=dG (σ:=σ) (I:=I) (w:=w) (tm:=tm) (a:=a) (x:=l) λs e=>h s (by simp[ho,Op.operands,e]);have hvc:=dG (σ:=σ) (I:=I) (w:=w) (tm:=tm) (a:=a) (x:=c) λs e=>h s (by simp[ho,Op.operands,e]);rw[hl]at hvl;rw[hc]at hvc;have el:=eF hvl;have ec:=eF hvc;have hsz:i.size=te.sz:=by rw[hte]
 have hby:i.bytes=te.bytes:=by rw[hte]
 have hzz:te.zero=z.cells.toList:=by rw[hte]
 have hzc:z.cells.size=te.sz:=by rw[<-hzl,hzz];simp
 have hzero:(zeroValue E).run P w=.ok z w:=by simp[zeroValue,typeInfo,hi,hz]
 have hwn:IntKind.i64.wrap n=n:=M0 n ⟨by omega,by omega⟩;have hwm:IntKind.i64.wrap m=m:=M0 m ⟨by omega,by omega⟩;have hrun:=zbF (P:=P) (w:=w) hu hi hz (k1:=k1) (k2:=k2) c1 c2 (by rw[hby];exact c3) c4;rw[hsz]at hrun;have hzt:=T2 m.toNat te.sz z.cells hzc;have hfr:σ nm=none:=hfree nm ⟨bY _,by omega⟩;have hlenA:((Array.range (m.toNat*te.sz)).map (z.cells[· %z.cells.size]!)).size=m.toNat*te.sz:=by simp
 have hcell:∀(i:Nat) e (j:Nat) c,(List.replicate n.toNat (te.zero.map D.v))[i]? =some e->e[j]? =some c->∃x,((Array.range (m.toNat*te.sz)).map (z.cells[· %z.cells.size]!)).toList[i*te.sz+j]? =some x/\RD I w c x/\x.oneCell'=true:=by
  intro i e j c he hcc;have hi':i<n.toNat:=by have:=(cE.1 he).1;simpa using this
  rw[List.getElem?_replicate_of_lt hi']at he;cases he;rw[jX]at hcc;cases hx:te.zero[j]? with
  |none=>simp[hx]at hcc
  |some x=>
   simp[hx]at hcc;subst hcc;have hj:j<te.sz:=by rw[<-hzl];exact(cE.1 hx).1
   refine⟨x,?_,.v x,hone x (gT hx)⟩;have hlt:i*te.sz+j<m.toNat*te.sz:=by
    have:(i+1)*te.sz<=m.toNat*te.sz:=oQ _ (by omega);rw[kC,sN]at this;omega
   have hmod:(i*te.sz+j)%te.sz=j:=by
    rw[uO,Nat.mul_add_mod];exact TK hj
   have hzx:z.cells[j]? =some x:=by rw[hzz]at hx;simpa using hx
   have hzb:z.cells[j]! =x:=by rw[Array.getElem!_eq_getD,Array.getD_eq_getD_getElem?,hzx];rfl
   rw[zG,Array.getElem?_map];have:(Array.range (m.toNat*te.sz))[i*te.sz+j]? =some (i*te.sz+j):=by simp[hlt]
   rw[this];simp only[tM,hzc,hmod,hzb]
 refine⟨.slice (some ⟨w.heap.size,0,none⟩) n.toNat m.toNat,w.alloc (.cells ((Array.range (m.toNat*te.sz)).map (z.cells[· %z.cells.size]!)) E (0,0)),fC σ nm (.slice (some ⟨w.heap.size,0,none⟩) n.toNat m.toNat),I,?_,?_,.own (by simp[fC]) rfl⟩
 ·simp only[execOp,ho,dS,el,ec,hrun,fB];rfl
 ·refine eG.swap (k:=.grow te.sz (List.replicate n.toNat (te.zero.map D.v)) E) none hib hm hfr rfl rfl ⟨rfl,bY _⟩ (by simp) (λj hj _=>wX w _ hj) (λσ' _=>?_) (λq hn=>?_) (λc q hq=>.inl (aN.P9 c q hq))
  ·have:=HA (σ:=σ') (I:=I) (w:=w.alloc (.cells ((Array.range (m.toNat*te.sz)).map (z.cells[· %z.cells.size]!)) E (0,0))) (sz:=te.sz) (es:=List.replicate n.toNat (te.zero.map D.v)) (T:=E) (cap:=m.toNat) (vals:=((Array.range (m.toNat*te.sz)).map (z.cells[· %z.cells.size]!)).toList) (ED w _) (by simp;omega) (by simp[maxLen];omega) (by rw[hlenA];exact bY _)
    (λe he=>by rw[TQ he];simp[hzl]) (λq u h=>by rw[<-zG];exact h)
    (λi e j c he hcc=>let⟨x,p1,p2,p3⟩:=hcell i e j c he hcc;⟨x,p1,p2.mono (λn hn=>wX w _ (hib n hn)) (λ_ h=>h),p3⟩)
   rwa[List.length_replicate]at this
  ·rcases wY m.toNat with h0|h0
   ·rw[h0]at hn;cases hn
   ·rw[vJ h0]at hn;cases hn;exact .inr ⟨bY _,by simp⟩
def R7 (te:TI)(mem:Mem):AV->Option (Prop×aN)
 |.sl b z i len=>match mem b with
  |some (.grow z' es T)=>if z=te.sz/\z'=te.sz/\te.zero.length=te.sz then
    some (i+len<=es.length,⟨.d (.v (.tuple #[])),[],[(b,some (.grow te.sz (es.take i++List.replicate len (te.zero.map D.v)++es.drop (i+len)) T))]⟩)else none
  |_=>none
 |_=>none
theorem zjg {res:AV}{b:Nat}{k k':aY}{mem:Mem}(hb:mem b=some k)(e:k'=k):(aN.mk res [] [(b,some k')]).mw mem=(aN.mk res [] [(b,some k')]).mr mem:=by
 subst e;funext c
 rw[aN.H7];show(if c=b then some k' else none)=_;by_cases h:c=b
 ·subst h;rw[aZ rfl,aN.kY hb (.inr (by simp[wrote]))]
 ·rw[aT h];simp[aN.mr,wrote,x9 h]
theorem zep {P:Program}{o:Oper}{c:Call}(ho:o.op=.call c)(hc:c.callee=.builtin .clear)(tm:Nat->AV)(mem:Mem)(nm:Nat){T E:TypeId}(hT:c.argTypes[0]? =some T){ti te:TI}(hti:aS P T=some ti)(hk:ti.k=.dX E)(hE:aS P E=some te)
  (hone:∀x∈te.zero,x.oneCell'=true) {x:Operand} (hx:c.args[0]? =some x) {sc:Prop} {e:aN} (he:R7 te mem (ev tm x)=some (sc,e)) (hsc:sc):bJ P o tm (e.mr mem) nm e.res (e.mw mem):=by
 have hmem:x∈c.args.toList:=by
  rw[<-zG]at hx;exact gT hx
 have hxe:∀a:Act,(c.args.map a.eval)[0]? =some (a.eval x):=λa=>by simp[hx]
 unfold R7 at he;split at he
 case h_2=>cases he
 rename_i b z i len hxx;split at he
 case h_2=>cases he
 rename_i z' es T' hb;split at he
 case isFalse=>cases he
 rename_i hcc;obtain⟨rfl,rfl,hzl⟩:=hcc;cases he;refine bJ.val λa w σ I hib h hm hfree=>?_;have hu:=uU hti hk;obtain⟨inf,d,z,hi,hd,hz,hte⟩:=jO hE;have hv:=dG (σ:=σ) (I:=I) (w:=w) (tm:=tm) (a:=a) (x:=x) λs e=>h s (by subst e;simp[ho,Op.operands,Call.operands,hc];simpa using hmem);rw[hxx]at hv;have hsz:inf.size=te.sz:=by rw[hte]
 have hzz:te.zero=z.cells.toList:=by rw[hte]
 have hzc:z.cells.size=te.sz:=by rw[<-hzl,hzz];simp
 have hzero:(zeroValue E).run P w=.ok z w:=by simp[zeroValue,typeInfo,hi,hz]
 obtain⟨y,hy,hrb,hyn⟩:=hm.blk b _ (aN.kY hb (.inr (by simp[wrote])));have hxa:=hxe a
 have same:len=0->(∃ad cp,a.eval x=.slice ad 0 cp)->∃v w' σ' I',(execOp a.eval o).run P w=.ok (.value v) w'/\eG σ I w ((aN.mk (.d (.v (.tuple #[]))) [] [(b,some (.grow te.sz (es.take i++List.replicate len (te.zero.map D.v)++es.drop (i+len)) T'))]).mr mem) nm σ' I' w'
   ((aN.mk (.d (.v (.tuple #[]))) [] [(b,some (.grow te.sz (es.take i++List.replicate len (te.zero.map D.v)++es.drop (i+len)) T'))]).mw mem)/\RV σ' I' w' (.d (.v (.tuple #[]))) v:=by
  rintro h0 ⟨ad,cp,he⟩;refine⟨.tuple #[],w,σ,I,?_,?_,.d (.v _)⟩
  ·rw[he]at hxa;cases ad<;>simp[execOp,ho,resolve,hc,invoke,builtin,Builtin.clear_,hT,hxa,cZ hu]
  ·rw[zjg hb (by subst h0;simp)];exact eG.refl hib hm
 rcases wY len with h0|h0
 ·refine same h0 ?_;generalize a.eval x=u at hv;subst h0;cases hv with
  |sl h hs=>
   cases hs with
   |nil=>exact⟨_,_,rfl⟩
   |none a=>exact⟨_,_,rfl⟩
   |some _ _=>exact⟨_,_,rfl⟩
 have hval:∃n IB cap c,a.eval x=.slice (some ⟨n,i*te.sz,none⟩) len c/\y=.slice (some ⟨n,0,none⟩) IB cap/\i+c<=cap/\len<=c:=by
  generalize a.eval x=u at hv;cases hv with
  |sl h hs=>
   rw[hy]at h;cases h;cases hs with
   |nil=>omega
   |none a=>omega
   |some h1 h2=>exact⟨_,_,_,_,rfl,rfl,h1,h2⟩
 obtain⟨n,IB,cap,c',hval,rfl,q1,q2⟩:=hval
 obtain⟨arr,g1,g2,g3,g4,g5,g6,g7⟩:∃arr,w.heap[n]? =some (.cells arr T' (0,0))/\cap*te.sz<=arr.size/\es.length<=cap/\cap<=maxLen/\(∀e∈es,e.length=te.sz)/\
   (∀(i:Nat) e (j:Nat) c,es[i]? =some e->e[j]? =some c->∃x,arr[i*te.sz+j]? =some x/\RD I w c x/\x.oneCell'=true)/\IB=es.length:=by
  cases hrb with
  |emp _=>simp at hsc;omega
  |grow g1 g2 g3 g4 g5 g6=>exact⟨_,g1,g2,g3,g4,g5,g6,rfl⟩
 subst g7
 let vs:List Value:=(Builtin.zeroCells z.cells len).toList
 have hvl:vs.length=len*te.sz:=by simp[vs,Builtin.zeroCells,hzc]
 have hvx:∀q,q<len*te.sz->vs[q]? =some (z.cells[q%te.sz]!):=λq hq=>by
  simp only[vs,Builtin.zeroCells,hzc,zG,Array.getElem?_map];have:(Array.range (len*te.sz))[q]? =some q:=by simp[hq]
  rw[this];rfl
 have hvone:∀v∈vs,v.oneCell'=true:=by
  intro v hv;obtain⟨q,hq⟩:=CM hv;have hql:q<len*te.sz:=by rw[<-hvl];exact(cE.1 hq).1
  rw[hvx q hql]at hq;cases hq;have hpos:0<te.sz:=by
   rcases wY te.sz with h|h
   ·rw[h]at hql;omega
   ·exact h
  have hlt:q%te.sz<z.cells.size:=by rw[hzc];exact EH _ hpos
  refine hone _ ?_;rw[hzz,EE z.cells _ hlt];simp
 have hb1:(i+len)*te.sz<=cap*te.sz:=oQ _ (by omega);rw[kC]at hb1;have hrun:=TH (P:=P) n (i*te.sz) T' vs 0 arr w g1 (by rw[hvl];omega) hvone;simp only[AX]at hrun;rw[hvl]at hrun;have hcap:0<cap:=by omega
 have hbn:AI.hb (Value.slice (some ⟨n,0,none⟩) es.length cap)=some n:=vJ hcap;have hnI:¬I n:=(hyn n hbn).2
 let arr':Array Value:=(arr.toList.take (i*te.sz)++vs++arr.toList.drop (i*te.sz+len*te.sz)).toArray
 refine⟨.tuple #[],w.setRow n arr',σ,I,?_,?_,.d (.v _)⟩
 ·rw[hval]at hxa;have hne:len≠0:=by omega
  obtain⟨l,rfl⟩:∃l,len=l+1:=⟨len-1,by omega⟩;simp[execOp,ho,resolve,hc,invoke,builtin,Builtin.clear_,hT,hxa,cZ hu,hzero];simp only[vs]at hrun;rw[hrun];rfl
 ·refine eG.write (b:=b) (k':=.grow te.sz (es.take i++List.replicate len (te.zero.map D.v)++es.drop (i+len)) T') hib hm (aN.kY hb (.inr (by simp[wrote]))) hy hbn (λj hj=>CG w n j _ hj) (by simp) rfl rfl ⟨rfl,bY _⟩ ?_ GV;have hel:(es.take i++List.replicate len (te.zero.map D.v)++es.drop (i+len)).length=es.length:=by simp;omega
  have hal:arr'.size=arr.size:=by simp[arr',hvl];omega
  have key:=RB.grow (σ:=σ) (I:=I) (w:=w.setRow n arr') (sz:=te.sz) (es:=es.take i++List.replicate len (te.zero.map D.v)++es.drop (i+len)) (T:=T') (n:=n) (cap:=cap) (setRow_heap w n arr _ T' _ g1) (by rw[hal];exact g2) (by rw[hel];exact g3) g4 ?_ ?_
  ·rw[hel]at key;exact key
  ·intro e he;simp only[gU]at he;rcases he with(he|he)|he
   ·exact g5 e (pY he)
   ·rw[TQ he];simp[hzl]
   ·exact g5 e (yB he)
  ·intro k e j c k1 k2;have mono:∀{c y},RD I w c y->RD I (w.setRow n arr') c y:=λh=>h.mono (λj hj=>CG w n j _ (λe=>hnI (e▸hj))) (λ_ h=>h);have htk:(es.take i).length=i:=by simp;omega
   have hj:j<te.sz:=by
    have h1:=(cE.1 k2).1;have:e.length=te.sz:=by
     have he:=gT k1;simp only[gU]at he;rcases he with(he|he)|he
     ·exact g5 e (pY he)
     ·rw[TQ he];simp[hzl]
     ·exact g5 e (yB he)
    omega
   have hsl:(arr.toList.take (i*te.sz)).length=i*te.sz:=by simp;omega
   by_cases h1:k<i
   ·rw[TU,qX (by omega),TM h1]at k1;obtain⟨x,p1,p2,p3⟩:=g6 k e j c k1 k2;refine⟨x,?_,mono p2,p3⟩;have:(k+1)*te.sz<=i*te.sz:=oQ _ h1;rw[kC,sN]at this;rw[MW,TU,qX (by omega),TM (by omega)];simpa using p1
   ·by_cases h2:k<i+len
    ·rw[qX (by simp;omega),tN (by omega),htk,List.getElem?_replicate_of_lt (by omega)]at k1;cases k1;rw[jX]at k2;cases hx':te.zero[j]? with
     |none=>simp[hx']at k2
     |some x'=>
      simp[hx']at k2;subst k2;refine⟨x',?_,.v x',hone x' (gT hx')⟩;have e1:k*te.sz+j=i*te.sz+((k-i)*te.sz+j):=by
       have:k*te.sz=i*te.sz+(k-i)*te.sz:=by rw[<-kC];congr 1;omega
       omega
      have e2:(k-i)*te.sz+j<len*te.sz:=by
       have:(k-i+1)*te.sz<=len*te.sz:=oQ _ (by omega);rw[kC,sN]at this;omega
      rw[MW,e1,qX (by rw[bZ,hsl,hvl];omega),tN (by omega),hsl,Nat.add_sub_cancel_left,hvx _ e2];have hmod:((k-i)*te.sz+j)%te.sz=j:=by
       rw[uO,Nat.mul_add_mod];exact TK hj
      have hzx:z.cells[j]? =some x':=by rw[hzz]at hx';simpa using hx'
      rw[hmod,Array.getElem!_eq_getD,Array.getD_eq_getD_getElem?,hzx];rfl
    ·have hrl:(es.take i++List.replicate len (te.zero.map D.v)).length=i+len:=by rw[bZ,htk];simp
     rw[tN (by omega),hrl,CN,show i+len+(k-(i+len))=k by omega]at k1;obtain⟨x,p1,p2,p3⟩:=g6 k e j c k1 k2;refine⟨x,?_,mono p2,p3⟩;have hal2:(arr.toList.take (i*te.sz)++vs).length=i*te.sz+len*te.sz:=by rw[bZ,hsl,hvl]
     have:(i+len)*te.sz<=k*te.sz:=oQ _ (by omega);rw[kC]at this;rw[MW,tN (by omega),hal2,CN,show i*te.sz+len*te.sz+(k*te.sz+j-(i*te.sz+len*te.sz))=k*te.sz+j by omega];simpa using p1
def SZ (te:TI)(E:TypeId)(nm:Nat):AV->AV->Option (Prop×aN)
 |.d (.v (.slice none 0 0)),.d (.v (.int .i64 n))=>if te.zero.length=te.sz/\0<te.sz then
   some (0<n/\n*te.bytes<=140737488355328/\n<=140737488355328,⟨.own nm,[],[(nm,some (.grow te.sz (List.replicate n.toNat (te.zero.map D.v)) E))]⟩)else none
 |_,_=>none
theorem zbN {P:Program}{w:World}{t u ty e:TypeId}{i:TypeInfo}{z:Value}(ht:P.underlying t=some (.slice e))(hu:P.underlying u=some (.int .i64))(hi:P.info? e=some i)(hz:i.zero=some z)(hs:0<i.size)
  {n:Int} (h0:0<n) (h1:n<=140737488355328) (hfit:Builtin.nextslicecap n.toNat 0*i.bytes<=281474976710656) (hb:n*i.bytes<=140737488355328):
  (Builtin.append_ #[t,u] ty #[.slice none 0 0,.int .i64 n]).run P w=
    .ok (.slice (some ⟨w.heap.size,0,none⟩) n.toNat (grownCap w n.toNat 0 e)) (w.drew.alloc (.cells (Builtin.zeroCells z.cells n.toNat++Builtin.zeroCells z.cells (grownCap w n.toNat 0 e-n.toNat)) e)):=by
 have hw:IntKind.i64.wrap n=n:=M0 n ⟨by omega,by omega⟩;have c1:¬n<0:=by omega
 have c2:¬(281474976710656<n*(i.bytes:Int)):=by omega
 have c3:¬(9223372036854775807<n):=by omega
 have c4:¬(281474976710656<Builtin.nextslicecap n.toNat 0*i.bytes):=by omega
 have c5:n.toNat≠0:=by omega
 have c6:i.size≠0:=by omega
 have c7:((n.toNat:Nat):Int)=n:=by omega
 have c8:¬n<=0:=by omega
 have c9:¬(n=0):=by omega
 have c10:¬(9223372036854775807<max n 0):=by omega
 have c11:n.toNat*i.size≠0:=Nat.mul_ne_zero c5 c6;simp[Builtin.append_,cZ ht,cZ hu,sizeOf,typeInfo,zeroValue,hi,hz,asInt,asIntOf,hw,c1,c2,c3,c4,c5,c6,c7,c8,c9,c10,c11,Question.forced,Builtin.firstCells,newRow,grownCap]
theorem zgB {P:Program}{T:TypeId}{ti:TI}(hT:aS P T=some ti)(hk:ti.k=.int .i64):P.underlying T=some (.int .i64):=by
 obtain⟨i,d,z,hi,hd,hz,rfl⟩:=jO hT;rw[hd];simp only at hk;cases d<;>simp[iS]at hk<;>simp[hk]
theorem zex {P:Program}{o:Oper}{c:Call}(ho:o.op=.call c)(hc:c.callee=.builtin .append)(tm:Nat->AV)(mem:Mem)(nm:Nat){T U:TypeId}(hT:c.argTypes=#[T,U]){x y:Operand}(hx:c.args=#[x,y])
  {ti te tu:TI} {E:TypeId} (hti:aS P T=some ti) (hk:ti.k=.dX E) (hE:aS P E=some te) (htu:aS P U=some tu) (hku:tu.k=.int .i64) (hone:∀x∈te.zero,x.oneCell'=true) {sc:Prop} {e:aN}
  (he:SZ te E nm (ev tm x) (ev tm y)=some (sc,e)) (hsc:sc):bJ P o tm (e.mr mem) nm e.res (e.mw mem):=by
 unfold SZ at he;split at he
 case h_2=>cases he
 rename_i n hl hn;split at he
 case isFalse=>cases he
 rename_i hzl;obtain⟨hzl,hpos⟩:=hzl;cases he;obtain⟨s1,s2,s3⟩:=hsc;refine bJ.val λa w σ I hib h hm hfree=>?_;have hu:=uU hti hk;have huu:=zgB htu hku;obtain⟨i,d,z,hi,hd,hz,hte⟩:=jO hE;have hvl:=dG (σ:=σ) (I:=I) (w:=w) (tm:=tm) (a:=a) (x:=x) λs e=>h s (by subst e;simp[ho,Op.operands,Call.operands,hx]);have hvc:=dG (σ:=σ) (I:=I) (w:=w) (tm:=tm) (a:=a) (x:=y) λs e=>h s (by subst e;simp[ho,Op.operands,Call.operands,hx]);rw[hl]at hvl;rw[hn]at hvc;have el:=eF hvl;have ec:=eF hvc;have hsz:i.size=te.sz:=by rw[hte]
 have hby:i.bytes=te.bytes:=by rw[hte]
 have hzz:te.zero=z.cells.toList:=by rw[hte]
 have hzc:z.cells.size=te.sz:=by rw[<-hzl,hzz];simp
 have hnn:((n.toNat:Nat):Int)=n:=by omega
 have hb':n.toNat*i.bytes<=140737488355328:=by
  have:((n.toNat*i.bytes:Nat):Int)<=140737488355328:=by rw[Int.natCast_mul,hnn,hby];exact s2
  omega
 have hrun:=zbN (P:=P) (w:=w) (t:=T) (u:=U) (ty:=o.type) hu huu hi hz (by omega) s1 s3 (growslice_fits (by omega) hb') (by rw[hby];exact s2);have hfr:σ nm=none:=hfree nm ⟨bY _,by omega⟩;have hge:=grownCap_ge w n.toNat 0 E;have hmx:grownCap w n.toNat 0 E<=maxLen:=grownCap_le_maxLen w _ _ _ (by simp[maxLen];omega)
 let arr:Array Value:=Builtin.zeroCells z.cells n.toNat++Builtin.zeroCells z.cells (grownCap w n.toNat 0 E-n.toNat)
 have hal:arr.size=grownCap w n.toNat 0 E*te.sz:=by
  simp only[arr,Array.size_append,size_zeroCells,hzc];rw[<-kC];congr 1;omega
 have hcell:∀(i:Nat) e (j:Nat) c,(List.replicate n.toNat (te.zero.map D.v))[i]? =some e->e[j]? =some c->∃x,(Builtin.zeroCells z.cells n.toNat).toList[i*te.sz+j]? =some x/\RD I w c x/\x.oneCell'=true:=by
  intro i e j c he hcc;have hi':i<n.toNat:=by have:=(cE.1 he).1;simpa using this
  rw[List.getElem?_replicate_of_lt hi']at he;cases he;rw[jX]at hcc;cases hx:te.zero[j]? with
  |none=>simp[hx]at hcc
  |some x=>
   simp[hx]at hcc;subst hcc;have hj:j<te.sz:=by rw[<-hzl];exact(cE.1 hx).1
   refine⟨x,?_,.v x,hone x (gT hx)⟩;have hlt:i*te.sz+j<n.toNat*te.sz:=by
    have:(i+1)*te.sz<=n.toNat*te.sz:=oQ _ (by omega);rw[kC,sN]at this;omega
   have hmod:(i*te.sz+j)%te.sz=j:=by
    rw[uO,Nat.mul_add_mod];exact TK hj
   have hzx:z.cells[j]? =some x:=by rw[hzz]at hx;simpa using hx
   have hzb:z.cells[j]! =x:=by rw[Array.getElem!_eq_getD,Array.getD_eq_getD_getElem?,hzx];rfl
   simp only[Builtin.zeroCells,hzc];rw[zG,Array.getElem?_map];have:(Array.range (n.toNat*te.sz))[i*te.sz+j]? =some (i*te.sz+j):=by simp[hlt]
   rw[this];simp only[tM,hmod,hzb]
 refine⟨.slice (some ⟨w.heap.size,0,none⟩) n.toNat (grownCap w n.toNat 0 E),w.drew.alloc (.cells arr E (0,0)),fC σ nm (.slice (some ⟨w.heap.size,0,none⟩) n.toNat (grownCap w n.toNat 0 E)),I,?_,?_,.own (by simp[fC]) rfl⟩
 ·simp[execOp,ho,resolve,hc,invoke,builtin,hT,hx,el,ec,hrun];rfl
 ·refine eG.swap (k:=.grow te.sz (List.replicate n.toNat (te.zero.map D.v)) E) none hib hm hfr rfl rfl ⟨rfl,Nat.le_succ _⟩ (by simp) (λj hj _=>wX w.drew _ hj) (λσ' _=>?_) (λq hn=>?_) (λc q hq=>.inl (aN.P9 c q hq))
  ·have:=HA (σ:=σ') (I:=I) (w:=w.drew.alloc (.cells arr E (0,0))) (sz:=te.sz) (es:=List.replicate n.toNat (te.zero.map D.v)) (T:=E) (cap:=grownCap w n.toNat 0 E) (vals:=(Builtin.zeroCells z.cells n.toNat).toList) (ED w.drew _) (by simp;omega) hmx (by rw[hal];exact bY _)
    (λe he=>by rw[TQ he];simp[hzl]) (λq u h=>by
      have hlt:=(cE.1 h).1;rw[Array.getElem?_append_left (by simpa using hlt)];simpa using h)
    (λi e j c he hcc=>let⟨x,p1,p2,p3⟩:=hcell i e j c he hcc;⟨x,p1,RD.mono (w:=w) (w':=w.drew.alloc (.cells arr E (0,0))) (λn hn=>wX w.drew _ (hib n hn)) (λ_ h=>h) p2,p3⟩)
   rwa[List.length_replicate]at this
  ·rw[vJ (by omega)]at hn;cases hn;exact .inr ⟨bY _,by simp⟩
def fG (kp:Nat->Bool)(mm:Nat->Option aY):Nat->AV->AV
 |0,a=>a
 |n+1,a=>match a with
  |.own b=>if kp b then .own b else match mm b with
   |some (.grow _ es _)=>.d (.ro false es)
   |some (.map ka ks va look)=>.d (.mp ka ks va look)
   |_=>.own b
  |.sl b sz i len=>if kp b then .sl b sz i len else match mm b with
   |some (.grow z es _)=>if z=sz/\i+len<=es.length then .d (.ro false ((es.drop i).take len))else .sl b sz i len
   |_=>.sl b sz i len
  |.ptr b off=>if kp b then .ptr b off else match mm b with
   |some (.cells cs _)=>match q8 (cs.map (fG kp mm n))with
    |some ds=>if(cs.map (fG kp mm n)).all DE=true then .d (.bE (ds.drop off))else .ptr b off
    |none=>.ptr b off
   |_=>.ptr b off
  |.agg cs=>.agg (cs.map (fG kp mm n))
  |.aU cs=>.aU (cs.map (fG kp mm n))
  |.fn f x y=>match q8 (x.map (fG kp mm n)),q8 (y.map (fG kp mm n))with
   |some x',some y'=>.d (.fn f x' y')
   |_,_=>.fn f (x.map (fG kp mm n)) (y.map (fG kp mm n))
  |.gB t x=>match CU (fG kp mm n x)with
   |some d=>.d (.gB t d)
   |none=>.gB t (fG kp mm n x)
  |a=>a
section
variable {kp : Nat -> Bool} {mm : Nat -> Option aY} {n : Nat}
@[simp] theorem prA_d (x:D):fG kp mm (n+1) (.d x)=.d x:=rfl
@[simp] theorem prA_any :fG kp mm (n+1) .any=.any:=rfl
@[simp] theorem prA_ab :fG kp mm (n+1) .ab=.ab:=rfl
@[simp] theorem prA_prow (b sz i off:Nat):fG kp mm (n+1) (.gR b sz i off)=.gR b sz i off:=rfl
@[simp] theorem prA_own (b:Nat):fG kp mm (n+1) (.own b)=if kp b then .own b else match mm b with
    |some (.grow _ es _)=>.d (.ro false es)
    |some (.map ka ks va look)=>.d (.mp ka ks va look)
    |_=>.own b:=rfl
@[simp] theorem prA_sl (b sz i len:Nat):fG kp mm (n+1) (.sl b sz i len)=if kp b then .sl b sz i len else match mm b with
    |some (.grow z es _)=>if z=sz/\i+len<=es.length then .d (.ro false ((es.drop i).take len))else .sl b sz i len
    |_=>.sl b sz i len:=rfl
@[simp] theorem prA_ptr (b off:Nat):fG kp mm (n+1) (.ptr b off)=if kp b then .ptr b off else match mm b with
    |some (.cells cs _)=>match q8 (cs.map (fG kp mm n))with
     |some ds=>if(cs.map (fG kp mm n)).all DE=true then .d (.bE (ds.drop off))else .ptr b off
     |none=>.ptr b off
    |_=>.ptr b off:=rfl
@[simp] theorem zc8 (cs:List AV):fG kp mm (n+1) (.agg cs)=.agg (cs.map (fG kp mm n)):=rfl
@[simp] theorem zc4 (cs:List AV):fG kp mm (n+1) (.aU cs)=.aU (cs.map (fG kp mm n)):=rfl
@[simp] theorem zc6 (f:Fn)(x y:List AV):fG kp mm (n+1) (.fn f x y)=match q8 (x.map (fG kp mm n)),q8 (y.map (fG kp mm n))with
    |some x',some y'=>.d (.fn f x' y')
    |_,_=>.fn f (x.map (fG kp mm n)) (y.map (fG kp mm n)):=rfl
@[simp] theorem zc5 (t:TypeId)(x:AV):fG kp mm (n+1) (.gB t x)=match CU (fG kp mm n x)with
    |some d=>.d (.gB t d)
    |none=>.gB t (fG kp mm n x):=rfl
end
def given (σ:Names)(I:Nat->Prop)(mm:Mem)(kp:Nat->Bool)(n:Nat):Prop:=I n\/∃b,kp b=false/\CF σ mm (some b) n
theorem Vx {x:AV}{d:D}(h:CU x=some d):x=.d d:=by
 unfold CU at h
 grind
theorem KQ {σ:Names}{I:Nat->Prop}{w:World}{mm:Mem}{kp:Nat->Bool}(hm:RM σ I w mm):∀(n:Nat) {a:AV} {v:Value},RV σ I w a v->RV σ (given σ I mm kp) w (fG kp mm n a) v:=by
 have hII:∀n,I n->given σ I mm kp n:=λn h=>.inl h;have mono:∀{a:AV} {v:Value},RV σ I w a v->RV σ (given σ I mm kp) w a v:=λh=>h.mono (λ_ _=>rfl) hII (λ_ _ h=>h);have monoD:∀{a:D} {v:Value},RD I w a v->RD (given σ I mm kp) w a v:=λh=>h.mono (λ_ _=>rfl) hII;intro n;induction n with
 |zero=>intro a v h;exact mono h
 |succ n ih=>
  have aB:∀{cs:List AV} {xs:List Value},(∀(i:Nat) c x,cs[i]? =some c->xs[i]? =some x->RV σ I w c x)->∀(i:Nat) c x,(cs.map (fG kp mm n))[i]? =some c->xs[i]? =some x->RV σ (given σ I mm kp) w c x:=by
   grind
  have lstD:∀{cs:List AV} {ds:List D} {xs:List Value},q8 (cs.map (fG kp mm n))=some ds->(∀(i:Nat) c x,cs[i]? =some c->xs[i]? =some x->RV σ I w c x)->∀(i:Nat) c x,ds[i]? =some c->xs[i]? =some x->RD (given σ I mm kp) w c x:=by
   intro cs ds xs hd h i c x h1 h2;have:=aB h i (.d c) x (by rw[vY hd];simp[h1]) h2;exact MM this
  intro a v h;cases h with
  |d h=>exact .d (monoD h)
  |any=>exact .any _
  |ab t=>exact .ab t
  |gR h=>exact .gR h
  | @own b _ hb h1=>
    simp;split
    ·exact .own hb h1
    ·rename_i hk;have hk:kp b=false:=by simpa using hk
     split
     ·rename_i z es T hbm;obtain⟨x,hx,hrb⟩:=hm.grow hbm;rw[hb]at hx;cases hx;rcases hrb with⟨rfl,rfl⟩|⟨ad,rfl,rfl⟩|⟨m,cap,arr,rfl,g1,g2,g3,g4,g5,g6⟩
      ·exact .d .nil
      ·exact .d .emp
      ·rcases wY cap with h0|h0
       ·subst h0;have:es=[]:=kH (by omega);subst this;exact .d .emp
       ·refine .d (.ro (sz:=z) (λi j=>arr.getD (i*z+j) undef) (.inr ⟨b,hk,b,_,_,rfl,hbm,hb,vJ h0⟩) g5 g3 g4 (λh=>by cases h) (λi e j c he hc=>?_) (λi e j c he hc=>?_) (λi e j c he hc=>?_))
        ·obtain⟨q,hq,_⟩:=g6 i e j c he hc;rw[AB g1,AR];simp[hq]
        ·obtain⟨q,hq,hr,_⟩:=g6 i e j c he hc;simpa[hq]using monoD hr
        ·obtain⟨q,hq,_,ho⟩:=g6 i e j c he hc;simpa[hq]using ho
     ·rename_i ka ks va look hbm;obtain⟨x,hx,hrb,_⟩:=hm.blk b _ hbm;rw[hb]at hx;cases hx;cases hrb with
      |map keys vals hw _ hk' hu hl hv=>exact .d (.mp keys vals (.inr ⟨b,hk,b,_,_,rfl,hbm,hb,rfl⟩) hw hk' hu hl (λi d j c x a1 a2 a3 a4=>monoD (hv i d j c x a1 a2 a3 a4)))
     ·exact .own hb h1
  | @sl b sz i len y v hb hs=>
    simp;split
    ·exact .sl hb hs
    ·rename_i hk;have hk:kp b=false:=by simpa using hk
     split
     ·rename_i z es T hbm;split
      ·rename_i hc;obtain⟨rfl,hle⟩:=hc;obtain⟨ad,c,val,hl⟩:=XS hm hbm hle (RV.sl hb hs);cases hs with
       |nil=>
        simp;exact .d .nil
       |none a=>simp;exact .d .emp
       | @some m L cap i' l c' hcc hll=>
         rcases wY c' with h0|h0
         ·subst h0;have:len=0:=by omega
          subst this;simp;exact .d .emp
         ·have hlv:=hl.v;simp only[Value.slice.injEq]at hlv;obtain⟨rfl,hlen,rfl⟩:=hlv;have key:RV σ (given σ I mm kp) w (.d (.ro false ((es.drop i).take len))) (.slice (some ⟨m,i*z,none⟩) ((es.drop i).take len).length c'):=.d (.ro (sz:=z) (fc:=false) val (.inr ⟨b,hk,b,_,_,rfl,hbm,hb,vJ (by omega)⟩) hl.len hl.cap hl.max (λh=>by cases h) (λq e j x he hx=>(hl.cell _ rfl q e j x he hx).2) (λq e j x he hx=>monoD (hl.rd q e j x he hx)) (λq e j x he hx=>hl.one q e j x he hx));rw[<-hlen]at key;exact key
      ·exact .sl hb hs
     ·exact .sl hb hs
  | @ptr b off m hb=>
    simp only[fG];split
    ·exact .ptr hb
    ·rename_i hk;have hk:kp b=false:=by simpa using hk
     split
     ·rename_i cs T hbm;split
      ·rename_i ds hds;split
       ·rename_i hone;obtain⟨m',arr,g1,g2,g3,g4⟩:=hm.cells hbm;rw[hb]at g1;cases g1;have hlen:ds.length=cs.length:=by have:=jW List.length (vY hds);simpa using this.symm
        have hc:=λ(j:Nat) c (h:(ds.drop off)[j]? =some c)=>by
         have h':ds[off+j]? =some c:=by rwa[CN]at h
         have hlt:off+j<arr.size:=by rw[g3,<-hlen];exact(cE.1 h').1
         have e1:arr.toList[off+j]? =some (arr.getD (off+j) undef):=by simp[hlt]
         exact(show w.cell? ⟨m,off+j,none⟩=some (arr.getD (off+j) undef)/\RD (given σ I mm kp) w c (arr.getD (off+j) undef)/\(arr.getD (off+j) undef).oneCell'=true from by
          refine⟨by rw[AB g2];simpa using e1,?_,?_⟩
          ·exact lstD hds (λi c x h1 h2=>g4 i c x h1 (by simpa using h2)) (off+j) c _ h' e1
          ·have hh:=aB (cs:=cs) (xs:=arr.toList) (λi c x h1 h2=>g4 i c x h1 (by simpa using h2)) (off+j) (.d c) _ (by rw[vY hds];simp[h']) e1;exact PR hh (dP.1 hone _ (gT (i:=off+j) (by rw[vY hds];simp[h']))))
        exact .d (.bE (λj=>arr.getD (off+j) undef) (.inr ⟨b,hk,b,_,_,rfl,hbm,hb,rfl⟩) (λj c h=>(hc j c h).1) (λj c h=>(hc j c h).2.1) (λj c h=>(hc j c h).2.2))
       ·exact .ptr hb
      ·exact .ptr hb
     ·exact .ptr hb
  |agg hl hr=>
   simp;exact .agg (by simpa using hl) (aB hr)
  |aU hl hr=>
   simp;exact .aU (by simpa using hl) (aB hr)
  |fn hx hy h1 h2=>
   simp;split
   ·rename_i x' y' e1 e2;have l1:=jW List.length (vY e1);have l2:=jW List.length (vY e2);simp at l1 l2;exact .d (.fn (by omega) (by omega) (lstD e1 h1) (lstD e2 h2))
   ·exact .fn (by simpa using hx) (by simpa using hy) (aB h1) (aB h2)
  |gB h=>
   simp only[fG];split
   ·rename_i d hd;have:=ih h;rw[Vx hd]at this;exact .d (.gB (MM this))
   ·exact .gB (ih h)
theorem zc7 {kp:Nat->Bool}{mm mm':Nat->Option aY}(h:∀b,kp b=false->mm b=mm' b):∀(n:Nat) (a:AV),fG kp mm n a=fG kp mm' n a:=by
 intro n;induction n with
 |zero=>intro a;rfl
 |succ n ih=>
  have hf:fG kp mm n=fG kp mm' n:=funext ih;intro a;cases a with
  |own b=>
   simp_all
  |sl b sz i len=>
   simp_all
  |ptr b off=>
   simp_all
  |agg cs=>simp only[zc8,hf]
  |aU cs=>simp only[zc4,hf]
  |fn f x y=>simp only[zc6,hf]
  |gB t x=>simp only[zc5,ih]
  |_=>rfl
def rI (gv:List Nat)(mem:Mem):Mem:=λb=>if gv.contains b then none else mem b
theorem T4 (l r:List (Nat×Option aY))(b:Nat):wrote (l++r) b=match wrote l b with|some k=>some k|none=>wrote r b:=by
 induction l with
 |nil=>rfl
 |cons p l ih=>
  simp only[yD,wrote];split
  ·rfl
  ·exact ih
theorem Ay (gv:List Nat)(b:Nat):wrote (gv.map λc=>(c,(none:Option aY))) b=if gv.contains b then some none else none:=by
 induction gv with
 |nil=>rfl
 |cons c l ih=>
  simp only[kE,wrote]
  grind
theorem bJ.give {P:Program}{o:Oper}{tm:Nat->AV}{mem:Mem}{nm:Nat}(gv:List Nat){e:aN}(hgv:∀b,b∈gv->(mem b).isSome=true)
  (h:bJ P o (λt=>fG (λb=>!gv.contains b) mem 8 (tm t)) (e.mr (rI gv mem)) nm e.res (e.mw (rI gv mem))):
  bJ P o tm ((aN.mk e.res e.rd (e.wr++gv.map λb=>(b,none))).mr mem) nm e.res ((aN.mk e.res e.rd (e.wr++gv.map λb=>(b,none))).mw mem):=by
 intro a w σ I h1 h2 h3 h4 next Q hn
 let kp:Nat->Bool:=λb=>!gv.contains b
 let m2:Mem:=(aN.mk e.res e.rd (e.wr++gv.map λb=>(b,none))).mr mem
 have hm2:∀b,kp b=false->mem b=m2 b:=by
  intro b hb;have hc:gv.contains b=true:=by grind
  have hw:(wrote (e.wr++gv.map λb=>(b,none)) b).isSome=true:=by
   rw[T4,Ay,hc];cases wrote e.wr b<;>rfl
  simp only[m2,aN.mr,hw,true_or,fK]
 have sub:∀b k,e.mr (rI gv mem) b=some k->m2 b=some k/\gv.contains b=false:=by
  intro b k hk;simp only[aN.mr]at hk;split at hk
  ·rename_i hc;simp only[rI]at hk;split at hk
   ·cases hk
   ·rename_i hg;refine⟨?_,by simpa using hg⟩;simp only[m2,aN.mr];rw[aZ ?_]
    ·exact hk
    ·rcases hc with hc|hc
     ·left;rw[T4];obtain⟨q,hq⟩:=y7.1 hc;rw[hq];simp
     ·exact .inr hc
  ·cases hk
 have hib:∀n,given σ I m2 kp n->n<w.heap.size:=by
  intro n hn;rcases hn with hn|⟨b,_,c,k,y,hc,hk,hy,e⟩
  ·exact h1 n hn
  ·obtain⟨y',hy',_,hh⟩:=h3.blk c k hk;rw[hy]at hy';cases hy';exact(hh n e).1
 have own2:∀n,eZ σ (e.mr (rI gv mem)) n->eZ σ m2 n:=by
  rintro n ⟨b,k,x,hb,hx,e⟩;exact⟨b,k,x,(sub b k hb).1,hx,e⟩
 have hrm:RM σ (given σ I m2 kp) w (e.mr (rI gv mem)):=by
  refine⟨λb k hb=>?_,λb b' k k' x x' n hb hb' hx hx' q q'=>h3.apart b b' k k' x x' n (sub b k hb).1 (sub b' k' hb').1 hx hx' q q'⟩;obtain⟨hb2,hbg⟩:=sub b k hb;obtain⟨x,hx,hrb,hh⟩:=h3.blk b k hb2;refine⟨x,hx,hrb.mono (λ_ _=>rfl) (λn h=>.inl h) (λ_ _ h=>h) (λ_ _=>rfl),λn hn=>⟨(hh n hn).1,?_⟩⟩;rintro(hI|⟨c,hc,d,k',y,hd,hk',hy,q⟩)
  ·exact(hh n hn).2 hI
  ·cases hd;have:=h3.apart b c k k' x y n hb2 hk' hx hy hn q;subst this;simp only[kp]at hc;rw[hbg]at hc;cases hc
 refine h a w σ (given σ I m2 kp) hib (λt ht=>?_) hrm h4 next Q (λv σ' I' w' hp hv=>hn v σ' I' w' ?_ hv)
 ·have:=KQ (kp:=kp) h3 8 (h2 t ht)
  rwa[<-zc7 (mm:=mem) (mm':=m2) hm2]at this
 ·have hmw:∀c q,(aN.mk e.res e.rd (e.wr++gv.map λb=>(b,none))).mw mem c=some q->e.mw (rI gv mem) c=some q:=by
   intro c q hq;simp only[aN.mw,T4,Ay]at hq;simp only[aN.mw];cases hw:wrote e.wr c with
   |some o=>rw[hw]at hq;exact hq
   |none=>
    rw[hw]at hq;simp only at hq⊢;cases hc:gv.contains c with
    |true=>rw[hc]at hq;simp at hq
    |false=>
     rw[hc]at hq;simp only[rI,hc];simpa using hq
  have ownsMw:∀n,eZ σ' ((aN.mk e.res e.rd (e.wr++gv.map λb=>(b,none))).mw mem) n->eZ σ' (e.mw (rI gv mem)) n:=by
   rintro n ⟨b,k,x,hb,hx,q⟩;exact⟨b,k,x,hmw b k hb,hx,q⟩
  refine⟨hp.os,hp.tape,hp.output,hp.size,hp.names,hp.new,λn hn=>hp.vH n (.inl hn),hp.ib,λn hn=>?_,λn hn hno=>hp.frame n hn (λho=>hno (own2 n ho)),⟨λb k hb=>hp.mem.blk b k (hmw b k hb),λb b' k k' x x' n hb hb'=>hp.mem.apart b b' k k' x x' n (hmw b k hb) (hmw b' k' hb')⟩,λc q hq=>?_,λn ho=>?_⟩
  ·rcases hp.kQ n hn with(g|⟨b,_,c,k,y,hc,hk,hy,q⟩)|g|g
   ·exact .inl g
   ·exact .inr (.inr ⟨c,k,y,hk,hy,q⟩)
   ·exact .inr (.inl g)
   ·exact .inr (.inr (own2 n g))
  ·rcases hp.wP c q (hmw c q hq)with g|g
   ·left;obtain⟨k,hk⟩:=Option.ne_none_iff_exists'.1 g;show m2 c≠none;rw[(sub c k hk).1];simp
   ·exact .inr g
  ·rcases hp.mine n (ownsMw n ho)with g|g
   ·exact .inl (own2 n g)
   ·exact .inr g
noncomputable def RO (te:TI)(ka:Bool)(ks:List CK)(mem:Mem)(nm:Nat)(m key:AV):Option (Prop×aN):=
 match m,BR key with
 |.own b,some kc=>match mem b with
  |some (.map ka' ks' va look)=>if ka'=ka/\ks'=ks/\yP key=ka/\va=te.agg/\te.za=te.agg then
    some (iX ks kc=true/\look kc=none,⟨.aU [vA te.agg (te.zero.map D.v),.own nm],[],[(b,some (.oJ ka ks va look kc nm))]⟩)else none
  |_=>none
 |_,_=>none
noncomputable def NX (mem:Mem)(m s x:AV):Option (Prop×aN):=
 match m,s,(cellsOf x).bind q8 with
 |.own b,.own c',some ds=>match mem b with
  |some (.oJ ka ks va look kc c)=>if yP x=va/\c=c' then some (True,⟨.d (.v undef),[],[(b,some (.map ka ks va (oS look kc ds)))]⟩)else none
  |_=>none
 |_,_,_=>none
theorem eG.open {σ:Names}{I:Nat->Prop}{w w':World}{m:Mem}{nm b:Nat}{x v:Value}{k k':aY}{n:Nat}(hib:∀n,I n->n<w.heap.size)(hm:RM σ I w m)
  (hb1:m b=some k) (hx:σ b=some x) (hn:hb x=some n) (hfr:σ nm=none) (ho:∀j,j≠n->w'.heap[j]? =w.heap[j]?) (hs:w'.heap.size=w.heap.size)
  (h1:w'.os=w.os) (h2:w'.tape=w.tape) (h3:sI w' w) (hk:RB (fC σ nm v) I w' k' x) {m':Mem} (hm':∀c q,m' c=some q->c=b/\q=k'):
  eG σ I w m nm (fC σ nm v) I w' m':=by
 have hne:b≠nm:=by grind
 have hub:fC σ nm v b=some x:=by simp[fC,hne,hx]
 obtain⟨y,hy,_,hyn⟩:=hm.blk b k hb1;rw[hx]at hy;cases hy;refine⟨h1,h2,h3,by omega,λc y hc=>?_,λc hc hc'=>?_,λ_ h=>h,λj hj=>by rw[hs];exact hib j hj,λ_ h=>.inl h,λj hj hno=>ho j (λe=>hno ⟨b,k,x,hb1,hx,by rw[hn,e]⟩),⟨λc q hq=>?_,λc c' q q' z z' j a1 a2 _ _ _ _=>?_⟩,λc q hq=>?_,λj hj=>?_⟩
 ·have:c≠nm:=by rintro rfl;rw[hc]at hfr;cases hfr
  simp[fC,this,hc]
 ·by_cases e:c=nm
  ·subst e;exact⟨bY _,by omega⟩
  ·simp[fC,e,hc]at hc'
 ·obtain⟨rfl,rfl⟩:=hm' c q hq;exact⟨x,hub,hk,λj hj=>by rw[hs];exact hyn j hj⟩
 ·rw[(hm' c q a1).1,(hm' c' q' a2).1]
 ·rw[(hm' c q hq).1];exact .inl (by rw[hb1];simp)
 ·obtain⟨c,q,z,a1,a2,a3⟩:=hj;obtain⟨rfl,rfl⟩:=hm' c q a1;rw[hub]at a2;cases a2;exact .inl ⟨c,k,x,hb1,hx,a3⟩
theorem Eh (I:Nat->Prop)(w:World){kc:List Value}{keys:Nat->List Value}{look:List Value->Option (List D)}{ka va:Bool}{ks:List CK}{vals:Nat->List Value}{es:Array MapEntry}
  (g1:∀(i:Nat) e,es[i]? =some e->e.key=mk ka (keys i)/\e.val=mk va (vals i)/\iX ks (keys i)=true/\∃d,look (keys i)=some d/\d.length=(vals i).length)
  (g3:∀k d,look k=some d->∃i,i<es.size/\keys i=k) (h:look kc=none):mP kc keys es.size 0=none:=by
 rcases TF.mP (I:=I) (w:=w) g1 g3 kc with⟨i,_,_,_,d,h1,_⟩|⟨h1,_⟩
 ·simp_all
 ·exact h1
theorem zen {P:Program}{o:Oper}{T:TypeId}{m key:Operand}(ho:o.op=.mapEntry T m key)(tm:Nat->AV)(mem:Mem)(nm:Nat){ti:TI}(hT:aS P T=some ti){K E:TypeId}(hk:ti.k=.map K E){te:TI}(hE:aS P E=some te){ka:Bool}{ks:List CK}(hK:DN P K ka ks){sc:Prop}{e:aN}
  (he:RO te ka ks mem nm (ev tm m) (ev tm key)=some (sc,e)) (hsc:sc):bJ P o tm (e.mr mem) nm e.res (e.mw mem):=by
 unfold RO at he;split at he
 case h_2=>cases he
 rename_i b kc hm0 hkc;split at he
 case h_2=>cases he
 rename_i ka' ks' va look hb;split at he
 case isFalse=>cases he
 rename_i hc;obtain⟨rfl,rfl,c3,rfl,c5⟩:=hc;cases he;obtain⟨s1,s2⟩:=hsc;have hu:=XN hT hk;refine bJ.val λa w σ I h1 h h3 hfree=>?_;have hfr:σ nm=none:=hfree nm ⟨bY _,by omega⟩;have hvk:=QV hkc (dG (σ:=σ) (I:=I) (w:=w) (tm:=tm) (a:=a) (x:=key) λs e=>h s (by simp[ho,Op.operands,e]));rw[c3]at hvk;have hvm:=dG (σ:=σ) (I:=I) (w:=w) (tm:=tm) (a:=a) (x:=m) λs e=>h s (by simp[ho,Op.operands,e]);rw[hm0]at hvm;have hmr:=aN.kY (e:=⟨.aU [vA te.agg (te.zero.map D.v),.own nm],[],[(b,some (.oJ ka' ks' te.agg look kc nm))]⟩) hb (.inr (by simp[wrote]));obtain⟨y,hy,hrb,hyn⟩:=h3.blk b _ hmr;generalize hev:a.eval m=u at hvm;cases hvm with
 |own h' _=>
  rw[hy]at h';cases h';cases hrb with
  | @map _ _ _ _ n clock es keys vals hw g0 g1 g2 g3 g4=>
    have hck:=OT (w:=w) hK s1 false;have hfk:=run_findKey (w:=w) hK s1 (keys:=keys) (es:=es) (λj e h=>⟨(g1 j e h).1,(g1 j e h).2.2.1⟩);have hg:(getObj n).run P w=.ok (.map es clock) w:=by simp[getObj,Sem.run,hw]
    have hs:=Eh I w g1 g3 s2;have hlt:=(qZ.1 hw).1;have hzr:(zeroValue E).run P w=.ok (mk te.agg te.zero) w:=M6 hE c5;refine⟨.tuple #[mk te.agg te.zero,.int .i64 clock],{w with heap:=w.heap.setIfInBounds n (.map (es.push {key:=mk ka' kc,val:=mk te.agg te.zero,born:=clock}) (clock+1))},fC σ nm (.int .i64 clock),I,?_,?_,?_⟩
    ·simp only[execOp,ho];rw[hev,hvk];simp only[Instr.mapEntry,dS,cZ hu,fB,hg,hck,hfk,hs,Option.map_none,hzr];simp[setObj,Sem.run,hw,goInt]
    ·refine eG.open (w':={w with heap:=w.heap.setIfInBounds n (.map (es.push {key:=mk ka' kc,val:=mk te.agg te.zero,born:=clock}) (clock+1))}) (v:=.int .i64 (clock:Int)) (k':=.oJ ka' ks' te.agg look kc nm) (b:=b) (n:=n) h1 h3 hmr hy rfl hfr (λj hj=>by simp[vU (x9 hj)]) (by simp) rfl rfl ⟨rfl,bY _⟩ ?_ (λc q hq=>?_)
     ·refine .oJ (z:=mk te.agg te.zero) keys vals (by simp[hlt]) (by simp[fC]) g0 s2 s1 g1 g2 g3 (λi d j c x q1 q2 q3 q4=>?_);have hnI:¬I n:=(hyn n rfl).2;exact(g4 i d j c x q1 q2 q3 q4).mono (λk hk=>by simp[vU (show n≠k from λe=>hnI (e▸hk))]) (λ_ h=>h)
     ·rw[aN.H7]at hq;by_cases e:c=b
      ·simp[e]at hq;exact⟨e,hq.symm⟩
      ·simp[e]at hq
    ·refine .aU (xs:=[mk te.agg te.zero,.int .i64 clock]) rfl (λi c x h4 h5=>?_)
     match i,h4,h5 with
     |0,h4,h5=>
      simp at h4 h5;subst h4;subst h5;refine TC (by simp) (λj c x h6 h7=>?_);rw[jX,h7]at h6;cases h6;exact .v _
     |1,h4,h5=>simp at h4 h5;subst h4;subst h5;exact .own (by simp[fC]) rfl
     |i+2,h4,h5=>simp at h4
theorem zem {P:Program}{o:Oper}{T:TypeId}{m s x:Operand}(ho:o.op=.entryStore T m s x)(tm:Nat->AV)(mem:Mem)(nm:Nat){sc:Prop}{e:aN}
  (he:NX mem (ev tm m) (ev tm s) (ev tm x)=some (sc,e)):bJ P o tm (e.mr mem) nm e.res (e.mw mem):=by
 unfold NX at he;split at he
 case h_2=>cases he
 rename_i b c' ds hm0 hs0 hds;split at he
 case h_2=>cases he
 rename_i ka ks va look kc c hb;split at he
 case isFalse=>cases he
 rename_i hc;obtain⟨c4,rfl⟩:=hc;cases he;refine bJ.skip λa w σ I h1 h h3 _=>?_;have hvm:=dG (σ:=σ) (I:=I) (w:=w) (tm:=tm) (a:=a) (x:=m) λs e=>h s (by simp[ho,Op.operands,e]);have hvs:=dG (σ:=σ) (I:=I) (w:=w) (tm:=tm) (a:=a) (x:=s) λs e=>h s (by simp[ho,Op.operands,e]);have hvx:=dG (σ:=σ) (I:=I) (w:=w) (tm:=tm) (a:=a) (x:=x) λs e=>h s (by simp[ho,Op.operands,e]);rw[hm0]at hvm;rw[hs0]at hvs;obtain⟨cl,hcl,hds'⟩:=Option.bind_eq_some_iff.1 hds;obtain⟨v1,v2⟩:=JA hvx hcl;have hcd:=vY hds';subst hcd;have hvmk:a.eval x=mk va (a.eval x).cells.toList:=by rw[<-c4];exact val_mk hvx hcl
 have hmr:=aN.kY (e:=⟨.d (.v undef),[],[(b,some (.map ka ks va (oS look kc ds)))]⟩) hb (.inr (by simp[wrote]));obtain⟨y,hy,hrb,hyn⟩:=h3.blk b _ hmr;generalize hev:a.eval m=u at hvm;cases hvm with
 |own h' _=>
  rw[hy]at h';cases h';cases hrb with
  | @oJ _ _ _ _ _ _ n clock z es keys vals hw hst g0 hkc hfk g1 g2 g3 g4=>
    have hes:a.eval s=.int .i64 clock:=by
     generalize a.eval s=us at hvs;cases hvs with
     |own h6 _=>rw[hst]at h6;cases h6;rfl
    have hnI:¬I n:=(hyn n rfl).2;have hlt:=(qZ.1 hw).1;have hg:(getObj n).run P w=.ok (.map (es.push {key:=mk ka kc,val:=z,born:=clock}) (clock+1)) w:=by simp[getObj,Sem.run,hw]
    have hfi:(es.push {key:=mk ka kc,val:=z,born:=clock}).findIdx? (λe=>(e.born:Int)==(clock:Int))=some es.size:=by
     rw[Array.findIdx?_eq_some_iff_getElem];refine⟨by simp,by simp,λj hj=>?_⟩;have hj':j<es.size:=hj;rw[Array.getElem_push_lt hj'];have:=g0 j es[j] (uQ hj');simp;omega
    let ob:Obj:=.map (es.push {key:=mk ka kc,val:=mk va (a.eval x).cells.toList,born:=clock}) (clock+1)
    have hmod:((es.push {key:=mk ka kc,val:=z,born:=clock}).modify es.size λe=>{e with val:=mk va (a.eval x).cells.toList})=es.push {key:=mk ka kc,val:=mk va (a.eval x).cells.toList,born:=clock}:=by
     apply Array.ext_getElem?;intro j;rw[TZ,Array.getElem?_push,Array.getElem?_push];by_cases e1:j=es.size
     ·subst e1;simp
     ·simp[e1,x9 e1]
    have hrun:(Instr.entryStore T (.map (some n)) (a.eval s) (a.eval x)).run P w=.ok () {w with heap:=w.heap.setIfInBounds n ob}:=by
     rw[hes];have ha:(asInt (.int .i64 (clock:Int))).run P w=.ok (clock:Int) w:=rfl;simp only[Instr.entryStore,dS,hg,fB,ha,hfi];rw[hvmk,hmod];simp[setObj,Sem.run,hw,ob]
    have g4':∀(i:Nat) d (j:Nat) c x,i<es.size->look (keys i)=some d->d[j]? =some c->(vals i)[j]? =some x->RD I {w with heap:=w.heap.setIfInBounds n ob} c x:=λi d j c x q1 q2 q3 q4=>
     (g4 i d j c x q1 q2 q3 q4).mono (λk hk=>by simp[vU (show n≠k from λe=>hnI (e▸hk))]) (λ_ h=>h)
    have hr':∀(j:Nat) c x',ds[j]? =some c->(a.eval x).cells.toList[j]? =some x'->RD I {w with heap:=w.heap.setIfInBounds n ob} c x':=λj c x' q1 q2=>by
     have:=v2 j (.d c) x' (by simp[q1]) (by simpa using q2);exact(MM this).mono (λk hk=>by simp[vU (show n≠k from λe=>hnI (e▸hk))]) (λ_ h=>h)
    refine⟨_,σ,I,by rw[execOp,ho];simp only[hev,dS,hrun,fB];rfl,?_⟩;refine eG.write (w':={w with heap:=w.heap.setIfInBounds n ob}) (b:=b) h1 h3 hmr hy rfl (λj hj=>?_) (by simp) rfl rfl ⟨rfl,bY _⟩ ?_ GV
    ·simp[vU (x9 hj)]
    ·exact(Z9 (w:=w) (n:=n) (clock:=clock) g0 g1 g2 g3 g4' hfk (by simpa using v1.symm) hr').2 (Eh I w g1 g3 hkc) (by simp[hlt,ob])
theorem M7 (l:List (Nat×Option aY))(b:Nat):(wrote l b).isSome=true↔b∈l.map (·.1):=by
 induction l with
 |nil=>simp[wrote]
 |cons p l ih=>
  obtain⟨c,k⟩:=p;simp only[wrote,kD]
  grind
theorem ZF {a b:List Nat}(h:LU a b=true){x:Nat}(hx:x∈a):x∉b:=by
 simp only[LU,dP]at h;have:=h x hx;simpa using this
theorem zfz {o:Oper}{t:Nat}(h:Operand.tmp t∈o.op.operands):t∈WH o:=by
 simp only[WH,List.mem_filterMap];exact⟨.tmp t,by simpa using h,rfl⟩
theorem Mj {ops:Array Oper}{o:Oper}{t:Nat}(h:looks ops o t):t∈XQ ops o:=by
 rcases h with h|⟨g,wa,p,h1,h2,h3⟩
 ·exact gU.2 (.inl (zfz h))
 ·refine gU.2 (.inr ?_);simp[h1,h2,h3]
theorem zeK {ops:Array Oper}{x y:Oper}(h:meets ops x y=false):
  (∀d,x.dst=some d->y.dst≠some d/\¬looks ops y d)/\(∀d,y.dst=some d->¬looks ops x d):=by
 simp only[meets,M4]at h;obtain⟨h1,h2⟩:=h;refine⟨λd hd=>?_,λd hd hl=>?_⟩
 ·simp only[hd]at h1;refine⟨λe=>?_,λhl=>?_⟩
  ·simp[e]at h1
  ·have:=Mj hl;simp[this]at h1
 ·simp only[hd]at h2;have:=Mj hl;simp[this]at h2
theorem ziu {ops:Array Oper}{pre:List (List Nat)}(h:IV ops pre=true):Hn ops (λj=>pre.getD j []):=by
 intro j o ho;have hj:j<ops.size:=(qZ.1 ho).1;simp only[IV,dP,JM]at h;have:=h j hj;simp only[ho,bL,dA,CO]at this;obtain⟨⟨h1,h2⟩,_⟩:=this;have medge:∀e,e∈IU o↔∃ed∈o.after,Region.binds .any ed=true/\ed.on=e:=by
  intro e;simp only[IU];simp_all
 grind
theorem zit {ops:Array Oper}{pre:List (List Nat)}(h:IV ops pre=true){tr:List aN}(hl:tr.length=ops.size)(hf:RC pre (tr.map aN.qQ)=true):
  ∀i j,i<j->j<ops.size->i∈(λj=>pre.getD j []) j\/JF ops (λi=>tr.getD i ⟨.any,[],[]⟩) i j:=by
 intro i j hij hj;simp only[IV,dP,JM]at h;have h1:=h j hj;simp only[RC,dP,JM,zD,hl]at hf;have h2:=hf j hj i hij;have hoj:ops[j]? =some ops[j]:=uQ hj;have hoi:ops[i]? =some ops[i]:=uQ (by omega);simp only[hoj,bL,dP,JM]at h1;have h3:=h1.2 i hij;simp only[hoi,sO,TT]at h3;simp only[sO,TT,bL]at h2;rcases h3 with h3|h3
 ·exact .inl h3
 rcases h2 with h2|h2
 ·exact .inl h2
 refine .inr ?_;have hn:=zeK (ops:=ops) (x:=ops[i]) (y:=ops[j]) (by simpa using h3);have ei:(tr.map aN.qQ).getD i ([],[])=(tr.getD i ⟨.any,[],[]⟩).qQ:=by
  simp[bO (show i<tr.length by omega)]
 have ej:(tr.map aN.qQ).getD j ([],[])=(tr.getD j ⟨.any,[],[]⟩).qQ:=by
  simp[bO (show j<tr.length by omega)]
 rw[ei,ej]at h2;obtain⟨⟨q1,q2⟩,q3⟩:=h2;refine⟨λd hd=>?_,λd hd o ho=>?_,λb hb=>?_,λb hb=>?_⟩
 ·simp only[hoi]at hd;refine⟨by simpa[hoj]using(hn.1 d hd).1,λo ho=>?_⟩;rw[hoj]at ho;cases ho;exact(hn.1 d hd).2
 ·simp only[hoj]at hd;rw[hoi]at ho;cases ho;exact hn.2 d hd
 ·have:=(M7 _ _).1 hb;refine⟨?_,ZF q1 this⟩;have hnot:=ZF q2 this;cases hw:wrote (tr.getD j ⟨.any,[],[]⟩).wr b with
  |none=>rfl
  |some k=>exact absurd ((M7 _ _).1 (by rw[hw];rfl)) hnot
 ·exact ZF q3 ((M7 _ _).1 hb)
def KY (f:Fn)(a b:List AV):AV:=match q8 a,q8 b with
 |some x,some y=>.d (.fn f x y)
 |_,_=>.fn f a b
theorem zfq {σ:Names}{I:Nat->Prop}{w:World}{f:Fn}{a b:List AV}{v:Value}(h:RV σ I w (.fn f a b) v):RV σ I w (KY f a b) v:=by
 unfold KY;split
 ·rename_i x y hx hy;have ex:=vY hx;have ey:=vY hy;subst ex;subst ey;cases h with
  |fn l1 l2 h1 h2=>
   refine .d (.fn (by simpa using l1) (by simpa using l2) (λi c u k1 k2=>?_) (λi c u k1 k2=>?_))
   ·cases h1 i (.d c) u (by simp[k1]) k2 with
    |d h=>exact h
   ·cases h2 i (.d c) u (by simp[k1]) k2 with
    |d h=>exact h
 ·exact h
theorem zd6 {P:Program}{o:Oper}{f:Fn}{first captured:Array Operand}(ho:o.op=.makeFunc f first captured)(tm:Nat->AV)(m:Mem)(nm:Nat):
  bJ P o tm m nm (KY f (first.toList.map (ev tm)) (captured.toList.map (ev tm))) m:=
 λa w σ I h1 h2 h3 h4 next Q hn=>zec ho tm m nm a w σ I h1 h2 h3 h4 next Q (λv σ' I' w' hp hv=>hn v σ' I' w' hp (zfq hv))
def MC (P:Program)(o:Oper)(tm:Nat->AV)(mem:Mem)(nm:Nat):Option aN:=
 match o.op with
 |.move x=>some ⟨ev tm x,[],[]⟩
 |.assign x=>some ⟨ev tm x,[],[]⟩
 |.pick c x y=>match ev tm c with
  |.d (.v (.bool t))=>some ⟨BG t (ev tm x) (ev tm y),[],[]⟩
  |_=>none
 |.alloc T=>match aS P T with
  |some ti=>some ⟨.ptr nm 0,[],[(nm,some (.cells (ti.zero.map λv=>.d (.v v)) T))]⟩
  |none=>none
 |.box T x=>match cellsOf (ev tm x)with
  |some cs=>some ⟨.ptr nm 0,[],[(nm,some (.cells cs T))]⟩
  |none=>none
 |.load T x=>match aS P T with
  |some ti=>BL ti.agg ti.sz mem (ev tm x)
  |none=>none
 |.store T a x=>match aS P T with
  |some ti=>NY ti.sz mem (ev tm x) (ev tm a)
  |none=>none
 |.binOp op T x y _=>match aS P T with
  |some ti=>match SL op ti (ev tm x) (ev tm y)with
   |some r=>some ⟨r,[],[]⟩
   |none=>none
  |none=>none
 |.unOp op _ x=>match NF op (ev tm x)with
  |some r=>some ⟨r,[],[]⟩
  |none=>none
 |.fieldAddr T x f=>match aS P T with
  |some ti=>match RK P ti f with
   |some off=>match FQ off (ev tm x)with
    |some r=>some ⟨r,[],[]⟩
    |none=>none
   |none=>none
  |none=>none
 |.field T x f=>match aS P T with
  |some ti=>match ti.k with
   |.dN fs=>match fs[f]? with
    |some (off,t,_)=>match aS P t,D4 (ev tm x)with
     |some tf,some cs=>match tD tf.agg tf.sz off cs with
      |some r=>some ⟨r,[],[]⟩
      |none=>none
     |_,_=>none
    |none=>none
   |_=>none
  |none=>none
 |.indexAddr T x i=>match aS P T with
  |some ti=>match ti.k with
   |.arr n E=>match aS P E with
    |some te=>FJ (.arr n E) te.sz mem (ev tm x) (ev tm i)
    |none=>none
   |.dX E=>match aS P E with
    |some te=>FJ (.dX E) te.sz mem (ev tm x) (ev tm i)
    |none=>none
   |_=>none
  |none=>none
 |.index T x i=>match aS P T with
  |some ti=>match ti.k with
   |.arr n E=>match aS P E with
    |some te=>match Q0 n te.agg te.sz (ev tm x) (ev tm i)with
     |some r=>some ⟨r,[],[]⟩
     |none=>none
    |none=>none
   |.str=>match QZ (ev tm x) (ev tm i)with
    |some r=>some ⟨r,[],[]⟩
    |none=>none
   |_=>none
  |none=>none
 |.extract x i=>match ev tm x with
  |.aU vs=>match vs[i]? with
   |some r=>some ⟨r,[],[]⟩
   |none=>none
  |_=>none
 |.build T parts=>match aS P T with
  |some ti=>if QS P ti.k=true then match SE P ti (parts.toList.map λp=>(p.1,ev tm p.2))with
    |some r=>some ⟨r,[],[]⟩
    |none=>none
   else none
  |none=>none
 |.nilCheck x=>if W8 (ev tm x)=true then some ⟨ev tm x,[],[]⟩else none
 |.makeInterface T x=>match aS P T with
  |some ti=>if RY ti.k=true then some ⟨XI T (ev tm x),[],[]⟩else none
  |none=>none
 |.makeFunc f first captured=>some ⟨KY f (first.toList.map (ev tm)) (captured.toList.map (ev tm)),[],[]⟩
 |.call c=>match c.callee with
  |.builtin .min=>match QB (c.args.toList.map (ev tm))with
   |some r=>some ⟨r,[],[]⟩
   |none=>none
  |.builtin .max=>match QD (c.args.toList.map (ev tm))with
   |some r=>some ⟨r,[],[]⟩
   |none=>none
  |.builtin .len=>match c.argTypes[0]?,c.args[0]? with
   |some T,some x=>match aS P T with
    |some ti=>IA ti.k mem (ev tm x)
    |none=>none
   |_,_=>none
  |_=>none
 |_=>none
theorem aN.Gz {r:AV}{m:Mem}:(aN.mk r [] []).mr m=(λ_=>none)/\(aN.mk r [] []).mw m=λ_=>none:=by
 constructor<;>(funext b;simp[aN.mr,aN.mw,wrote])
theorem bJ.tA {P:Program}{o:Oper}{tm:Nat->AV}{mem:Mem}{nm:Nat}{r:AV}(h:bJ P o tm (λ_=>none) nm r (λ_=>none)):
  bJ P o tm ((aN.mk r [] []).mr mem) nm r ((aN.mk r [] []).mw mem):=by
 rw[aN.Gz.1,aN.Gz.2];exact h
theorem zli {P:Program}{o:Oper}{tm:Nat->AV}{mem:Mem}{nm:Nat}{e:aN}(h:MC P o tm mem nm=some e):bJ P o tm (e.mr mem) nm e.res (e.mw mem):=by
 unfold MC at h;split at h
 ·cases h;exact .tA (Je (.inl ‹_›) tm _ nm)
 ·cases h;exact .tA (Je (.inr ‹_›) tm _ nm)
 ·split at h
  ·cases h;exact .tA (zd2 ‹_› tm _ nm ‹_›)
  ·cases h
 ·split at h
  ·cases h;exact zey ‹_› tm mem nm ‹_›
  ·cases h
 ·split at h
  ·cases h;exact zeu ‹_› tm mem nm ‹_›
  ·cases h
 ·split at h
  ·exact Jf ‹_› tm mem nm ‹_› h
  ·cases h
 ·split at h
  ·exact HV ‹_› tm mem nm ‹_› h
  ·cases h
 ·split at h
  ·split at h
   ·cases h;exact .tA (zev ‹_› tm _ nm ‹_› ‹_›)
   ·cases h
  ·cases h
 ·split at h
  ·cases h;exact .tA (zdW ‹_› tm _ nm ‹_›)
  ·cases h
 ·split at h
  ·split at h
   ·split at h
    ·cases h;exact .tA (zej ‹_› tm _ nm ‹_› ‹_› ‹_›)
    ·cases h
   ·cases h
  ·cases h
 ·split at h
  ·split at h
   ·split at h
    ·split at h
     ·split at h
      ·cases h;exact .tA (zek ‹_› tm _ nm ‹_› ‹_› ‹_› ‹_› ‹_› ‹_›)
      ·cases h
     ·cases h
    ·cases h
   ·cases h
  ·cases h
 ·split at h
  ·split at h
   ·split at h
    ·rename_i n E hk _ _ _;exact WQ ‹_› tm mem nm ‹_› (.inl ⟨_,hk⟩) ‹_› (by rw[hk];exact h)
    ·cases h
   ·split at h
    ·rename_i E hk _ _ _;exact WQ ‹_› tm mem nm ‹_› (.inr hk) ‹_› (by rw[hk];exact h)
    ·cases h
   ·cases h
  ·cases h
 ·split at h
  ·split at h
   ·split at h
    ·split at h
     ·cases h;exact .tA (zei ‹_› tm _ nm ‹_› ‹_› ‹_› ‹_›)
     ·cases h
    ·cases h
   ·split at h
    ·cases h;exact .tA (zeg ‹_› tm _ nm ‹_› ‹_› ‹_›)
    ·cases h
   ·cases h
  ·cases h
 ·split at h
  ·split at h
   ·cases h;exact .tA (zel ‹_› tm _ nm ‹_› ‹_›)
   ·cases h
  ·cases h
 ·split at h
  ·split at h
   ·split at h
    ·cases h;exact .tA (zet ‹_› tm _ nm ‹_› ‹_› ‹_›)
    ·cases h
   ·cases h
  ·cases h
 ·split at h
  ·cases h;exact .tA (zd4 ‹_› tm _ nm ‹_›)
  ·cases h
 ·split at h
  ·split at h
   ·cases h;exact .tA (zeb ‹_› tm _ nm ‹_› ‹_›)
   ·cases h
  ·cases h
 ·cases h;exact .tA (zd6 ‹_› tm _ nm)
 ·split at h
  ·split at h
   ·cases h;exact .tA (zd7 ‹_› ‹_› tm _ nm ‹_›)
   ·cases h
  ·split at h
   ·cases h;exact .tA (zd8 ‹_› ‹_› tm _ nm ‹_›)
   ·cases h
  ·split at h
   ·split at h
    ·exact Jg ‹_› ‹_› tm mem nm ‹_› ‹_› ‹_› h
    ·cases h
   ·cases h
  ·cases h
 ·cases h
def BF (σ:Names)(p:Nat):Prop:=∃m,σ p=some (.pointer (some ⟨m,0,none⟩))
def gr (σ:Names):aY->aY
 |.dR ps T=>.grow 1 (ps.map λb=>[.v ((σ b).getD undef)]) T
 |k=>k
def gm (σ:Names)(m:Mem):Mem:=λb=>(m b).map (gr σ)
theorem zcB {σ:Names}{I:Nat->Prop}{w:World}{k:aY}{v:Value}(h:RB σ I w k v):RB σ I w (gr σ k) v:=by
 cases h with
 |yT=>exact .none
 |xS a=>exact .emp a
 | @dR ps T n cap arr hw hl hcap hmax hr=>
   have:=RB.grow (σ:=σ) (I:=I) (w:=w) (sz:=1) (es:=ps.map λb=>[D.v ((σ b).getD undef)]) (T:=T) (n:=n) (cap:=cap+1) (arr:=arr) hw (by omega) (by simpa using hcap) hmax (by simp) (λi e j c h1 h2=>by
    rw[jX]at h1;obtain⟨b,hb,rfl⟩:=sM.1 h1;cases j with
    |succ j=>simp at h2
    |zero=>
     simp at h2;subst h2;obtain⟨m,q1,q2⟩:=hr i b hb;refine⟨.pointer (some ⟨m,0,none⟩),by simpa using q2,?_,rfl⟩;rw[q1];exact .v _)
   simpa[gr]using this
 |cells h1 h2 h3=>exact .cells h1 h2 h3
 |none=>exact .none
 |emp a=>exact .emp a
 |grow h1 h2 h3 h4 h5 h6=>exact .grow h1 h2 h3 h4 h5 h6
 |map keys vals h1 hb hk hu hl hv=>exact .map keys vals h1 hb hk hu hl hv
 |oJ keys vals h1 hst hb hkc hfk hk hu hl hv=>exact .oJ keys vals h1 hst hb hkc hfk hk hu hl hv
 |iter h1 h2=>exact .iter h1 h2
theorem zcA {σ σ':Names}{I:Nat->Prop}{w:World}{k:aY}{v:Value}(hk:∀ps T,k=.dR ps T->∀p∈ps,BF σ p)(hσ:∀b x,σ b=some x->σ' b=some x)(h:RB σ' I w (gr σ k) v):RB σ' I w k v:=by
 cases k with
 |dR ps T=>
  simp only[gr]at h;generalize hq:(ps.map λb=>[D.v ((σ b).getD undef)])=es at h;cases h with
  |none=>
   obtain rfl:ps=[]:=List.map_eq_nil_iff.1 hq;exact .yT
  |emp a=>
   obtain rfl:ps=[]:=List.map_eq_nil_iff.1 hq;exact .xS a
  | @grow _ _ _ n cap arr h1 h2 h3 h4 h5 h6=>
    subst hq;rw[zD]at h3⊢;cases cap with
    |zero=>
     obtain rfl:ps=[]:=kH (by omega);exact .xS _
    |succ cap=>
     refine .dR h1 (by omega) h3 h4 (λi b hi=>?_);obtain⟨m,hm⟩:=hk ps T rfl b (gT hi);obtain⟨x,g1,g2,_⟩:=h6 i [D.v ((σ b).getD undef)] 0 (D.v ((σ b).getD undef)) (by rw[jX,hi];rfl) rfl;rw[hm]at g2;cases g2;exact⟨m,hσ _ _ hm,by simpa using g1⟩
 |_=>exact h
theorem PO {σ σ0:Names}{m:Mem}{n:Nat}:eZ σ (gm σ0 m) n↔eZ σ m n:=by
 constructor
 ·rintro⟨b,k,x,h1,h2,h3⟩;obtain⟨k',hk',_⟩:=sM.1 h1;exact⟨b,k',x,hk',h2,h3⟩
 ·rintro⟨b,k,x,h1,h2,h3⟩;exact⟨b,gr σ0 k,x,by simp[gm,h1],h2,h3⟩
theorem zb7 {σ:Names}{I:Nat->Prop}{w:World}{m:Mem}(h:RM σ I w m):RM σ I w (gm σ m):=by
 refine⟨λb k hk=>?_,λb b' k k' x x' n h1 h2 h3 h4 h5 h6=>?_⟩
 ·obtain⟨k',hk',rfl⟩:=sM.1 hk;obtain⟨x,p,q,r⟩:=h.blk b k' hk';exact⟨x,p,zcB q,r⟩
 ·obtain⟨q,hq,_⟩:=sM.1 h1;obtain⟨q',hq',_⟩:=sM.1 h2;exact h.apart b b' q q' x x' n hq hq' h3 h4 h5 h6
theorem zb6 {σ:Names}{I:Nat->Prop}{w:World}{m:Mem}(h:RM σ I w m){b:Nat}{ps:List Nat}{T:TypeId}(hb:m b=some (.dR ps T)):∀p∈ps,BF σ p:=by
 obtain⟨x,_,hr,_⟩:=h.blk b _ hb;intro p hp;cases hr with
 |yT=>cases hp
 |xS a=>cases hp
 |dR _ _ _ _ h5=>
  obtain⟨i,hi⟩:=MU.1 hp;obtain⟨m,q,_⟩:=h5 i p hi;exact⟨m,q⟩
theorem eG.Ve {σ:Names}{I:Nat->Prop}{w:World}{mr mw:Mem}{nm:Nat}{σ':Names}{I':Nat->Prop}{w':World}(hk:∀b ps T,mw b=some (.dR ps T)->∀p∈ps,BF σ p)
  (h:eG σ I w (gm σ mr) nm σ' I' w' (gm σ mw)):eG σ I w mr nm σ' I' w' mw:=by
 refine⟨h.os,h.tape,h.output,h.size,h.names,h.new,h.vH,h.ib,λn hn=>?_,λn h1 h2=>h.frame n h1 (λho=>h2 (PO.1 ho)),⟨λb k hb=>?_,λb b' k k' x x' n h1 h2 h3 h4 h5 h6=>?_⟩,λb k hb=>?_,λn hn=>?_⟩
 ·rcases h.kQ n hn with g|g|g
  ·exact .inl g
  ·omega
  ·exact .inr (.inr (PO.1 g))
 ·obtain⟨x,p,q,r⟩:=h.mem.blk b (gr σ k) (by simp[gm,hb]);exact⟨x,p,zcA (λps T e=>hk b ps T (e▸hb)) h.names q,r⟩
 ·exact h.mem.apart b b' (gr σ k) (gr σ k') x x' n (by simp[gm,h1]) (by simp[gm,h2]) h3 h4 h5 h6
 ·rcases h.wP b (gr σ k) (by simp[gm,hb])with g|g
  ·exact .inl (λe=>g (by simp[gm,e]))
  ·exact .inr g
 ·rcases h.mine n (PO.2 hn)with g|g
  ·exact .inl (PO.1 g)
  ·exact .inr g
theorem bJ.gp {P:Program}{o:Oper}{tm:Nat->AV}{mr mw:Mem}{nm:Nat}{res:AV}
  (h:∀σ:Names,(∀b ps T,mr b=some (.dR ps T)->∀p∈ps,BF σ p)->(∀t q off,Operand.tmp t∈o.op.operands->tm t=.ptr q off->BF σ q)->
    ∃(tm':Nat->AV) (res':AV),bJ P o tm' (gm σ mr) nm res' (gm σ mw)/\(∀I w t v,Operand.tmp t∈o.op.operands->RV σ I w (tm t) v->RV σ I w (tm' t) v)/\(∀σ' I w v,(∀b x,σ b=some x->σ' b=some x)->RV σ' I w res' v->RV σ' I w res v))
  (hw:∀b ps T,mw b=some (.dR ps T)->∀p∈ps,(∃b' ps' T',mr b'=some (.dR ps' T')/\p∈ps')\/∃t off,Operand.tmp t∈o.op.operands/\tm t=.ptr p off):bJ P o tm mr nm res mw:=by
 intro a w σ I hib hop hm hfree next Q hnext;have k1:∀b ps T,mr b=some (.dR ps T)->∀p∈ps,BF σ p:=λb ps T hb=>zb6 hm hb;have k2:∀t q off,Operand.tmp t∈o.op.operands->tm t=.ptr q off->BF σ q:=by
  intro t q off ht e;have:=hop t ht;rw[e]at this;generalize a.tmps.getD t undef=v at this;cases this with
  |ptr h=>exact⟨_,h⟩
 obtain⟨tm',res',h1,h2,h3⟩:=h σ k1 k2;refine h1 a w σ I hib (λt ht=>h2 I w t _ ht (hop t ht)) (zb7 hm) hfree next Q (λv σ' I' w' hp hv=>hnext v σ' I' w' (eG.Ve (λb ps T hb p hpp=>?_) hp) (h3 σ' I' w' v hp.names hv))
 grind
def aN.gr (e:aN)(σ:Names)(r:AV):aN:=⟨r,e.rd,e.wr.map λp=>(p.1,p.2.map (Go.AI.gr σ))⟩
theorem T3 (σ:Names)(b:Nat):∀l:List (Nat×Option aY),wrote (l.map λp=>(p.1,p.2.map (gr σ))) b=(wrote l b).map (Option.map (gr σ))
 |[]=>rfl
 | (c,k)::r=>by
   simp only[kE,wrote];split
   ·rfl
   ·exact T3 σ b r
theorem zfp (e:aN)(σ:Names)(r:AV)(m:Mem):(e.gr σ r).mr (gm σ m)=gm σ (e.mr m):=by
 funext b
 simp only[aN.mr,aN.gr,T3,gm];cases wrote e.wr b<;>simp<;>split<;>simp_all
theorem zfk (e:aN)(σ:Names)(r:AV)(m:Mem):(e.gr σ r).mw (gm σ m)=gm σ (e.mw m):=by
 funext b
 simp only[aN.mw,aN.gr,T3,gm]
 grind
theorem bJ.LG {P:Program}{o:Oper}{tm:Nat->AV}{mem:Mem}{nm:Nat}{e:aN}
  (h:∀σ:Names,(∀b ps T,mem b=some (.dR ps T)->b∈e.rd\/(wrote e.wr b).isSome->∀p∈ps,BF σ p)->(∀t q off,Operand.tmp t∈o.op.operands->tm t=.ptr q off->BF σ q)->
    ∃(tm':Nat->AV) (res':AV),bJ P o tm' ((e.gr σ res').mr (gm σ mem)) nm res' ((e.gr σ res').mw (gm σ mem))/\(∀I w t v,Operand.tmp t∈o.op.operands->RV σ I w (tm t) v->RV σ I w (tm' t) v)/\(∀σ' I w v,(∀b x,σ b=some x->σ' b=some x)->RV σ' I w res' v->RV σ' I w e.res v))
  (hw:∀b ps T,(b,some (aY.dR ps T))∈e.wr->∀p∈ps,(∃b' ps' T',mem b'=some (.dR ps' T')/\(b'∈e.rd\/(wrote e.wr b').isSome)/\p∈ps')\/∃t off,Operand.tmp t∈o.op.operands/\tm t=.ptr p off):bJ P o tm (e.mr mem) nm e.res (e.mw mem):=by
 have wm:∀(l:List (Nat×Option aY)) b k,wrote l b=some k->(b,k)∈l:=by
  intro l;induction l with
  |nil=>intro b k h;cases h
  |cons p l ih=>
   intro b k h;simp only[wrote]at h
   grind
 refine bJ.gp (λσ k1 k2=>?_) (λb ps T hb p hp=>?_)
 ·obtain⟨tm',res',h1,h2,h3⟩:=h σ (λb ps T hb hc=>k1 b ps T (by rw[aN.mr,aZ hc.symm];exact hb)) k2;rw[zfp,zfk]at h1;exact⟨tm',res',h1,h2,h3⟩
 ·simp only[aN.mw]at hb;split at hb
  ·rename_i k hk;subst hb;rcases hw b ps T (wm _ _ _ hk) p hp with⟨b',ps',T',q1,q2,q3⟩|q
   ·exact .inl ⟨b',ps',T',by rw[aN.mr,aZ q2.symm];exact q1,q3⟩
   ·exact .inr q
  ·split at hb
   ·rename_i hc;exact .inl ⟨b,ps,T,by rw[aN.mr,aZ (.inr hc)];exact hb,hp⟩
   ·cases hb
section
variable {P : Program} {o : Oper} {tm : Nat -> AV} {mem : Mem} {nm : Nat}
theorem zef {c:Call}(ho:o.op=.call c)(hc:c.callee=.builtin .len){T E:TypeId}(hT:c.argTypes[0]? =some T){ti:TI}(hti:aS P T=some ti)(hk:ti.k=.dX E){x:Operand}(hx:c.args[0]? =some x)
  {b:Nat} {ps:List Nat} {U:TypeId} (hv:ev tm x=.own b) (hb:mem b=some (.dR ps U)):
  bJ P o tm ((aN.mk (.d (.v (.int .i64 ps.length))) [b] []).mr mem) nm (.d (.v (.int .i64 ps.length))) ((aN.mk (.d (.v (.int .i64 ps.length))) [b] []).mw mem):=by
 refine bJ.LG (e:=⟨.d (.v (.int .i64 ps.length)),[b],[]⟩) (λσ _ _=>⟨tm,.d (.v (.int .i64 ps.length)),?_,λ_ _ _ _ _ h=>h,λ_ _ _ _ _ h=>h⟩) (λ_ _ _ h=>by cases h);refine Jg ho hc tm (gm σ mem) nm hT hti hx (e:=⟨_,[b],[]⟩) ?_;rw[hv,hk];simp[IA,gm,hb,gr]
theorem zeh {T E:TypeId}{x i:Operand}(ho:o.op=.indexAddr T x i){ti:TI}(hT:aS P T=some ti)(hk:ti.k=.dX E){te:TI}(hTe:aS P E=some te)(hz:te.sz=1)
  {b j:Nat} {ps:List Nat} {U:TypeId} (hv:ev tm x=.own b) (hi:ev tm i=.d (.v (.int .i64 j))) (hb:mem b=some (.dR ps U)) (hj:j<ps.length):
  bJ P o tm ((aN.mk (.gR b 1 j 0) [b] []).mr mem) nm (.gR b 1 j 0) ((aN.mk (.gR b 1 j 0) [b] []).mw mem):=by
 refine bJ.LG (e:=⟨.gR b 1 j 0,[b],[]⟩) (λσ _ _=>⟨tm,.gR b 1 j 0,?_,λ_ _ _ _ _ h=>h,λ_ _ _ _ _ h=>h⟩) (λ_ _ _ h=>by cases h);refine WQ ho tm (gm σ mem) nm hT (.inr hk) hTe (e:=⟨_,[b],[]⟩) ?_;rw[hv,hi,hk,hz];simp[FJ,gm,hb,gr,hj]
theorem zee {T:TypeId}{x:Operand}(ho:o.op=.load T x){ti:TI}(hT:aS P T=some ti)(hg:ti.agg=false)
  {b j p:Nat} {ps:List Nat} {U:TypeId} (hv:ev tm x=.gR b 1 j 0) (hb:mem b=some (.dR ps U)) (hj:ps[j]? =some p):
  bJ P o tm ((aN.mk (.ptr p 0) [b] []).mr mem) nm (.ptr p 0) ((aN.mk (.ptr p 0) [b] []).mw mem):=by
 refine bJ.LG (e:=⟨.ptr p 0,[b],[]⟩) (λσ k1 _=>⟨tm,.d (.v ((σ p).getD undef)),?_,λ_ _ _ _ _ h=>h,λσ' I w v hσ h=>?_⟩) (λ_ _ _ h=>by cases h)
 ·refine Jf ho tm (gm σ mem) nm hT (e:=⟨_,[b],[]⟩) ?_;rw[hv,hg];simp[BL,gm,hb,gr,hj,tD]
 ·obtain⟨m,hm⟩:=k1 b ps U hb (.inl (by simp)) p (gT hj);rw[hm]at h;rw[eF h];exact .ptr (hσ _ _ hm)
def vp (σ:Names):AV->AV
 |.ptr q 0=>.d (.v ((σ q).getD undef))
 |a=>a
theorem Uq {σ:Names}{I:Nat->Prop}{w:World}{a:AV}{v:Value}(h:RV σ I w a v):RV σ I w (vp σ a) v:=by
 unfold vp;split
 ·rename_i q;cases h with
  |ptr h=>rw[h];exact .d (.v _)
 ·exact h
theorem zes {T E:TypeId}{t:Nat}(ho:o.op=.buildSlice T 1 #[(0,.tmp t)]){ti te:TI}(hT:aS P T=some ti)(hk:ti.k=.dX E)(hE:aS P E=some te)(hz:te.sz=1)(hz0:te.zero.length=1){p:Nat}(hv:tm t=.ptr p 0):
  bJ P o tm ((aN.mk (.own nm) [] [(nm,some (.dR [p] E))]).mr mem) nm (.own nm) ((aN.mk (.own nm) [] [(nm,some (.dR [p] E))]).mw mem):=by
 have hop:Operand.tmp t∈o.op.operands:=by simp[ho,Op.operands]
 refine bJ.LG (e:=⟨.own nm,[],[(nm,some (.dR [p] E))]⟩) (λσ _ k2=>⟨λs=>vp σ (tm s),.own nm,?_,λ_ _ _ _ _ h=>Uq h,λ_ _ _ _ _ h=>h⟩) (λb ps T' h q hq=>?_)
 ·obtain⟨m,hm⟩:=k2 t p 0 hop hv;obtain⟨z,hzz⟩:∃z,te.zero=[z]:=List.length_eq_one_iff.1 hz0;refine Jk ho (λs=>vp σ (tm s)) (gm σ mem) nm hT hk hE (sc:=True) (e:=(aN.mk (.own nm) [] [(nm,some (.dR [p] E))]).gr σ (.own nm)) ?_;simp[ev,hv,vp,hm,hz,hzz,aN.gr,gr,LY,zY,chunk,q8,CU,DE,cellsOf,lay,Value.oneCell']
 ·grind
theorem Jo {c:Call}(ho:o.op=.call c)(hc:c.callee=.builtin .append){T U:TypeId}(hT:c.argTypes=#[T,U]){x y:Operand}(hx:c.args=#[x,y]){E:TypeId}{ti te:TI}(hti:aS P T=some ti)(hk:ti.k=.dX E)(hte:aS P E=some te)
  (hb0:0<te.bytes) (hz0:te.zero.length=te.sz) (hz:te.sz=1) (hU:∃e,P.underlying U=some (.slice e)) {a:Option Nat} {b:Nat} {ps qs:List Nat}
  (hv:(ev tm x=.d (.v (.slice none 0 0))/\a=none/\ps=[])\/∃a',ev tm x=.own a'/\a=some a'/\mem a'=some (.dR ps E)) (hv2:ev tm y=.own b) (hb:mem b=some (.dR qs E)) (hs:(ps.length+qs.length)*te.bytes<=140737488355328):
  bJ P o tm ((aN.mk (.own nm) [b] ((nm,some (.dR (ps++qs) E))::a.toList.map λa=>(a,none))).mr mem) nm (.own nm) ((aN.mk (.own nm) [b] ((nm,some (.dR (ps++qs) E))::a.toList.map λa=>(a,none))).mw mem):=by
 refine bJ.LG (e:=⟨.own nm,[b],(nm,some (.dR (ps++qs) E))::a.toList.map λa=>(a,none)⟩) (λσ _ _=>⟨tm,.own nm,?_,λ_ _ _ _ _ h=>h,λ_ _ _ _ _ h=>h⟩) (λd rs T' h q hq=>?_)
 ·have e1:(aN.mk (.own nm) [b] ((nm,some (.dR (ps++qs) E))::a.toList.map λa=>(a,none))).gr σ (.own nm)=⟨.own nm,[b],(nm,some (.grow te.sz ((ps.map λb=>[.v ((σ b).getD undef)])++(qs.map λb=>[.v ((σ b).getD undef)])) E))::a.toList.map λa=>(a,none)⟩:=by
   simp[aN.gr,gr,hz]
  rw[e1];have hl:∀l:List Nat,iY (l.map λb=>[D.v ((σ b).getD undef)]) te.sz:=by
   intro l e he
   grind
  have hd:FU te.sz E (gm σ mem) (ev tm x)=some (ps.map (λb=>[.v ((σ b).getD undef)]),a.isNone,a):=by
   rcases hv with⟨h1,rfl,rfl⟩|⟨a',h1,rfl,h2⟩
   ·rw[h1];simp[FU]
   ·rw[h1];simp[FU,gm,h2,gr,hz]
  have hsrc:L8 false te.sz (gm σ mem) (ev tm y)=some (qs.map (λb=>[.v ((σ b).getD undef)]),[b]):=by
   rw[hv2];simp[L8,GQ,gm,hb,gr,hz]
  obtain⟨sc,e2,he,hsc,hee⟩:∃sc e2,FZ false te.sz te.bytes E (gm σ mem) nm (ev tm x) (ev tm y)=some (sc,e2)/\sc/\e2=⟨.own nm,[b],(nm,some (.grow te.sz ((ps.map λb=>[.v ((σ b).getD undef)])++(qs.map λb=>[.v ((σ b).getD undef)])) E))::a.toList.map λa=>(a,none)⟩:=by
   unfold FZ;rw[hd,hsrc];refine⟨_,_,rfl,⟨λhf=>.inl ?_,hl ps,hl qs,by simpa using hs⟩,rfl⟩;rcases hv with⟨_,_,rfl⟩|⟨a',_,rfl,_⟩
   ·rfl
   ·simp at hf
  subst hee;exact WR ho hc tm (gm σ mem) nm hT hx hti hk hte hb0 hz0 (str:=false) (by simpa using hU) he hsc
 ·simp at h;obtain⟨rfl,rfl,rfl⟩:=h;rcases gU.1 hq with g|g
  ·rcases hv with⟨_,_,rfl⟩|⟨a',_,rfl,h2⟩
   ·cases g
   ·exact .inl ⟨a',_,_,h2,.inr (by simp[wrote];split<;>simp),g⟩
  ·exact .inl ⟨b,_,_,hb,.inl (by simp),g⟩
end
end Go.AI
namespace Go.AI
open Classical
def YB (P:Program)(T:TypeId)(ka:Bool)(ks:List CK):Bool:=
 decide (pR P 8 T=some ks)&&QX P T&&decide (ks.length=bV P T)&&(match P.underlying T with
  |some d=>decide (jV d=ka)&&(ka|| (match d,ks with|.int _,[.int]=>true|.bool,[.bool]=>true|.string,[.str]=>true|_,_=>false))
  |none=>false)
theorem zgm {P:Program}{T:TypeId}{ka:Bool}{ks:List CK}(h:YB P T ka ks=true):DN P T ka ks:=by
 simp only[YB,bL,dA]at h;obtain⟨⟨⟨h1,h2⟩,h3⟩,h4⟩:=h;refine⟨h1,h2,h3,?_⟩
 grind
structure MI where
 K:TypeId
 E:TypeId
 ka:Bool
 ks:List CK
 te:TI
def xL (P:Program)(T:TypeId):Option MI:=
 match aS P T with
 |some ti=>match ti.k with
  |.map K E=>match aS P K,aS P E with
   |some tk,some te=>match tk.fl with
    |some ks=>if YB P K tk.agg ks then some ⟨K,E,tk.agg,ks,te⟩else none
    |none=>none
   |_,_=>none
  |_=>none
 |none=>none
theorem QC {P:Program}{T:TypeId}{mi:MI}(h:xL P T=some mi):∃ti,aS P T=some ti/\ti.k=.map mi.K mi.E/\aS P mi.E=some mi.te/\DN P mi.K mi.ka mi.ks:=by
 unfold xL at h;split at h
 case h_2=>cases h
 rename_i ti hti;split at h
 case h_2=>cases h
 rename_i K E hk;split at h
 case h_2=>cases h
 rename_i tk te htk hte;split at h
 case h_2=>cases h
 split at h
 ·rename_i hb;cases h;exact⟨ti,hti,hk,hte,zgm hb⟩
 ·cases h
def x5 (P:Program)(T:TypeId):Option (TypeId×TI):=
 match aS P T with
 |some ti=>match ti.k with
  |.dX E=>match aS P E with
   |some te=>some (E,te)
   |none=>none
  |_=>none
 |none=>none
theorem BZ {P:Program}{T E:TypeId}{te:TI}(h:x5 P T=some (E,te)):∃ti,aS P T=some ti/\ti.k=.dX E/\aS P E=some te:=by
 unfold x5 at h
 grind
noncomputable def MB (P:Program)(o:Oper)(tm:Nat->AV)(mem:Mem)(nm:Nat):Option (Prop×aN):=
 match o.op with
 |.buildSlice T len parts=>match x5 P T with
  |some (E,te)=>LY te.sz len te.zero E nm (parts.toList.map λp=>(p.1,ev tm p.2))
  |none=>none
 |.makeMap T none=>match xL P T with
  |some mi=>some (True,⟨.own nm,[],[(nm,some (.map mi.ka mi.ks mi.te.agg λ_=>none))]⟩)
  |none=>none
 |.range T x=>match aS P T,ev tm x with
  |some ti,.d (.v (.string s))=>if ti.k=.str then some (True,⟨.own nm,[],[(nm,some (.iter s 0))]⟩)else none
  |_,_=>none
 |.next x true=>PZ mem (ev tm x)
 |.lookup T x k ok=>match xL P T with
  |some mi=>QG mi.te mi.ka mi.ks mem (ev tm x) (ev tm k) ok
  |none=>none
 |.mapUpdate T m k x=>match xL P T with
  |some mi=>JY mi.te mi.ka mi.ks mem (ev tm m) (ev tm k) (ev tm x)
  |none=>none
 |.insert T m k x=>match xL P T with
  |some mi=>JY mi.te mi.ka mi.ks mem (ev tm m) (ev tm k) (ev tm x)
  |none=>none
 |.convert S T x=>match aS P S,aS P T with
  |some ts,some td=>LW ts.k td.k (match ts.k with
   |.dX E=>match aS P E with
    |some te=>if te.sz=1 then some te.k else none
    |none=>none
   |_=>none) mem (ev tm x)
  |_,_=>none
 |.slice T x lo hi mx=>match aS P T with
  |some ti=>if mx.isSome=true/\hi.isSome=false then none else match ti.k with
   |.dX E=>match aS P E with
    |some te=>KG (.dX E) te.sz mem (ev tm x) (lo.map (ev tm)) (hi.map (ev tm)) (mx.map (ev tm))
    |none=>none
   |.str=>KG .str 0 mem (ev tm x) (lo.map (ev tm)) (hi.map (ev tm)) (mx.map (ev tm))
   |_=>none
  |none=>none
 |.makeSlice T l c=>match x5 P T with
  |some (E,te)=>if te.zero.all Value.oneCell'=true then QF te E nm (ev tm l) (ev tm c)else none
  |none=>none
 |.typeAssert x _ T ok=>match aS P T with
  |some te=>NU (match te.k with|.iface _=>true|_=>false) T te ok (ev tm x)
  |none=>none
 |.binOp op T x y _=>match KJ op (ev tm x) (ev tm y)with
  |some r=>some r
  |none=>match aS P T with
   |some ti=>PX op y ti.k mem (ev tm x)
   |none=>none
 |.call c=>match c.callee with
  |.builtin .append=>match c.argTypes.toList,c.args.toList with
   |[T,U],[x,y]=>match x5 P T,aS P U with
    |some (E,te),some tu=>if 0<te.bytes/\te.zero.length=te.sz then match tu.k with
      |.str=>FZ true te.sz te.bytes E mem nm (ev tm x) (ev tm y)
      |.dX _=>FZ false te.sz te.bytes E mem nm (ev tm x) (ev tm y)
      |.int .i64=>if te.zero.all Value.oneCell'=true then SZ te E nm (ev tm x) (ev tm y)else none
      |_=>none
     else none
    |_,_=>none
   |_,_=>none
  |.builtin .cap=>match c.argTypes[0]?,c.args[0]? with
   |some T,some x=>match aS P T with
    |some ti=>SA ti.k (ev tm x)
    |none=>none
   |_,_=>none
  |.builtin .clear=>match c.argTypes[0]?,c.args[0]? with
   |some T,some x=>match x5 P T with
    |some (E,te)=>if te.zero.all Value.oneCell'=true then R7 te mem (ev tm x)else none
    |none=>none
   |_,_=>none
  |_=>none
 |_=>none
theorem mC {α:Type}{a:Array α}{x y:α}(h:a.toList=[x,y]):a=#[x,y]:=by
 cases a;simp at h;simp[h]
theorem zlk {P:Program}{o:Oper}{tm:Nat->AV}{mem:Mem}{nm:Nat}{sc:Prop}{e:aN}(h:MB P o tm mem nm=some (sc,e))(hsc:sc):bJ P o tm (e.mr mem) nm e.res (e.mw mem):=by
 unfold MB at h;split at h
 ·split at h
  ·rename_i he;obtain⟨ti,h1,h2,h3⟩:=BZ he;exact Jk ‹_› tm mem nm h1 h2 h3 h
  ·cases h
 ·split at h
  ·cases h;exact zea ‹_› rfl tm mem nm _ _ _ rfl
  ·cases h
 ·split at h
  ·rename_i ti s hti hx;split at h
   ·cases h;exact zd0 ‹_› tm mem nm hti ‹_› hx rfl
   ·cases h
  ·cases h
 ·exact zd5 ‹_› tm mem nm h
 ·split at h
  ·rename_i mi hmi;obtain⟨ti,h1,h2,h3,h4⟩:=QC hmi;exact zed ‹_› tm mem nm h1 h2 h3 h4 h hsc
  ·cases h
 ·split at h
  ·rename_i ho _ mi hmi;obtain⟨ti,h1,h2,h3,h4⟩:=QC hmi;exact Iy (.inl ho) tm mem nm h1 h2 h4 h hsc
  ·cases h
 ·split at h
  ·rename_i ho _ mi hmi;obtain⟨ti,h1,h2,h3,h4⟩:=QC hmi;exact Iy (.inr ho) tm mem nm h1 h2 h4 h hsc
  ·cases h
 ·split at h
  ·rename_i ts td hts htd;refine zeo ‹_› tm mem nm hts htd (λE hE k hk=>?_) h hsc;rw[hE]at hk;simp only at hk;split at hk
   ·rename_i te hte;split at hk
    ·cases hk;exact⟨te,hte,rfl,‹_›⟩
    ·cases hk
   ·cases hk
  ·cases h
 ·split at h
  ·rename_i ho _ ti hti;split at h
   ·cases h
   ·rename_i hmh;have hmh':∀{mx hi:Option Operand},¬(mx.isSome=true/\hi.isSome=false)->mx≠none->hi≠none:=by
     intro mx hi h1 h2 h3;subst h3;cases mx with
     |none=>exact h2 rfl
     |some _=>exact h1 ⟨rfl,rfl⟩
    split at h
    ·rename_i E hk;split at h
     ·rename_i te hte;exact ok_slice (sz:=te.sz) ho (hmh' hmh) tm mem nm hti (λE' hE'=>by rw[hk]at hE';cases hE';exact⟨te,hte,rfl⟩) (by rw[hk];exact h) hsc
     ·cases h
    ·rename_i hk;exact ok_slice (sz:=0) ho (hmh' hmh) tm mem nm hti (λE' hE'=>by rw[hk]at hE';cases hE') (by rw[hk];exact h) hsc
    ·cases h
  ·cases h
 ·split at h
  ·rename_i he;obtain⟨ti,h1,h2,h3⟩:=BZ he;split at h
   ·rename_i hz;exact zd9 ‹_› tm mem nm h1 h2 h3 (λx hx=>by simpa using dP.1 hz x hx) h hsc
   ·cases h
  ·cases h
 ·split at h
  ·rename_i te hte;refine zdX ‹_› tm mem nm hte (λha b hb=>?_) h;rw[hb]at ha;cases ha
  ·cases h
 ·split at h
  ·rename_i ho _ r hr;cases h;exact zdZ ho tm mem nm hr hsc
  ·split at h
   ·exact PT ‹_› tm mem nm ‹_› h
   ·cases h
 ·rename_i c ho;split at h
  ·rename_i hcal;split at h
   ·rename_i T U x y hT hA;split at h
    ·rename_i E te tu he htu;obtain⟨ti,h1,h2,h3⟩:=BZ he;split at h
     ·rename_i hc;split at h
      ·rename_i hk;exact WR (str:=true) ho hcal tm mem nm (mC hT) (mC hA) h1 h2 h3 hc.1 hc.2 (by simpa using J7 htu hk) h hsc
      ·rename_i E' hk;exact WR (str:=false) ho hcal tm mem nm (mC hT) (mC hA) h1 h2 h3 hc.1 hc.2 (by simpa using⟨E',uU htu hk⟩) h hsc
      ·rename_i hk;split at h
       ·rename_i hz;exact zex ho hcal tm mem nm (mC hT) (mC hA) h1 h2 h3 htu hk (λx hx=>by simpa using dP.1 hz x hx) h hsc
       ·cases h
      ·cases h
     ·cases h
    ·cases h
   ·cases h
  ·rename_i hcal;split at h
   ·rename_i T x hT hx;split at h
    ·exact zeq ho hcal tm mem nm hT ‹_› hx h
    ·cases h
   ·cases h
  ·rename_i hcal;split at h
   ·rename_i T x hT hx;split at h
    ·rename_i E te he;obtain⟨ti,h1,h2,h3⟩:=BZ he;split at h
     ·rename_i hz;exact zep ho hcal tm mem nm hT h1 h2 h3 (λx hx=>by simpa using dP.1 hz x hx) hx h hsc
     ·cases h
    ·cases h
   ·cases h
  ·cases h
 ·cases h
noncomputable def L9 (P:Program)(o:Oper)(tm:Nat->AV)(mem:Mem)(nm:Nat):Option (Prop×aN):=
 match o.op with
 |.mapEntry T m k=>match xL P T with
  |some mi=>RO mi.te mi.ka mi.ks mem nm (ev tm m) (ev tm k)
  |none=>none
 |.entryStore _ m s x=>NX mem (ev tm m) (ev tm s) (ev tm x)
 |_=>none
theorem zlj {P:Program}{o:Oper}{tm:Nat->AV}{mem:Mem}{nm:Nat}{sc:Prop}{e:aN}(h:L9 P o tm mem nm=some (sc,e))(hsc:sc):bJ P o tm (e.mr mem) nm e.res (e.mw mem):=by
 unfold L9 at h;split at h
 ·split at h
  ·rename_i mi hmi;obtain⟨ti,h1,h2,h3,h4⟩:=QC hmi;exact zen ‹_› tm mem nm h1 h2 h3 h4 h hsc
  ·cases h
 ·exact zem ‹_› tm mem nm h
 ·cases h
noncomputable def I6 (P:Program)(o:Oper)(tm:Nat->AV)(mem:Mem)(nm:Nat):Option (Prop×aN):=
 match MB P o tm mem nm with
 |some r=>some r
 |none=>L9 P o tm mem nm
theorem Ta {P:Program}{o:Oper}{tm:Nat->AV}{mem:Mem}{nm:Nat}{sc:Prop}{e:aN}(h:I6 P o tm mem nm=some (sc,e))(hsc:sc):bJ P o tm (e.mr mem) nm e.res (e.mw mem):=by
 unfold I6 at h;split at h
 ·cases h;exact zlk ‹_› hsc
 ·exact zlj h hsc
def KW :AV->List Nat
 |.own b=>[b]
 |.sl b _ _ _=>[b]
 |_=>[]
def YO (tm:Nat->AV)(o:Oper):List Nat:=
 match o.op with
 |.buildSlice _ _ parts=>parts.toList.flatMap λp=>KW (ev tm p.2)
 |.mapUpdate _ _ _ x=>KW (ev tm x)
 |.insert _ _ _ x=>KW (ev tm x)
 |.entryStore _ _ _ x=>KW (ev tm x)
 |_=>[]
noncomputable def MF (P:Program)(o:Oper)(tm:Nat->AV)(mem:Mem)(nm:Nat)(gv:List Nat):Option (Prop×aN):=
 match gv with
 |[]=>none
 |c::r=>match I6 P o (λt=>fG (λb=>!(c::r).contains b) mem 8 (tm t)) (rI (c::r) mem) nm with
  |some (sc,e)=>some (((c::r).all (λb=>(mem b).isSome)=true)/\sc,⟨e.res,e.rd,e.wr++(c::r).map λb=>(b,none)⟩)
  |none=>none
theorem zlm {P:Program}{o:Oper}{tm:Nat->AV}{mem:Mem}{nm:Nat}{gv:List Nat}{sc:Prop}{e:aN}(h:MF P o tm mem nm gv=some (sc,e))(hsc:sc):bJ P o tm (e.mr mem) nm e.res (e.mw mem):=by
 unfold MF at h;split at h
 ·cases h
 ·rename_i c r;split at h
  ·rename_i sc' e' he;cases h;obtain⟨s1,s2⟩:=hsc;exact bJ.give (c::r) (λb hb=>dP.1 s1 b hb) (Ta he s2)
  ·cases h
noncomputable def ME (P:Program)(o:Oper)(tm:Nat->AV)(mem:Mem)(nm:Nat):Option (Prop×aN):=
 match o.op with
 |.call c=>match c.callee with
  |.builtin .len=>match c.argTypes[0]?,c.args[0]? with
   |some T,some x=>match x5 P T,ev tm x with
    |some (_,_),.own b=>match mem b with
     |some (.dR ps _)=>some (True,⟨.d (.v (.int .i64 ps.length)),[b],[]⟩)
     |_=>none
    |_,_=>none
   |_,_=>none
  |.builtin .append=>match c.argTypes.toList,c.args.toList with
   |[T,U],[x,y]=>match x5 P T,x5 P U,ev tm y with
    |some (E,te),some (_,_),.own b=>match mem b with
     |some (.dR qs E')=>if E'=E/\0<te.bytes/\te.zero.length=te.sz/\te.sz=1 then match ev tm x with
       |.d (.v (.slice none 0 0))=>some (qs.length*te.bytes<=140737488355328,⟨.own nm,[b],[(nm,some (.dR qs E))]⟩)
       |.own a=>match mem a with
        |some (.dR ps E'')=>if E''=E then some ((ps.length+qs.length)*te.bytes<=140737488355328,⟨.own nm,[b],[(nm,some (.dR (ps++qs) E)),(a,none)]⟩)else none
        |_=>none
       |_=>none
      else none
     |_=>none
    |_,_,_=>none
   |_,_=>none
  |_=>none
 |.indexAddr T x i=>match x5 P T,ev tm x,ev tm i with
  |some (_,te),.own b,.d (.v (.int .i64 n))=>match mem b with
   |some (.dR ps _)=>if 0<=n/\n<ps.length/\te.sz=1 then some (True,⟨.gR b 1 n.toNat 0,[b],[]⟩)else none
   |_=>none
  |_,_,_=>none
 |.load T x=>match aS P T,ev tm x with
  |some ti,.gR b 1 j 0=>match mem b with
   |some (.dR ps _)=>match ps[j]? with
    |some p=>if ti.agg=false then some (True,⟨.ptr p 0,[b],[]⟩)else none
    |none=>none
   |_=>none
  |_,_=>none
 |.buildSlice T 1 parts=>match x5 P T,parts.toList with
  |some (E,te),[(0,.tmp t)]=>match tm t with
   |.ptr p 0=>if te.sz=1/\te.zero.length=1 then some (True,⟨.own nm,[],[(nm,some (.dR [p] E))]⟩)else none
   |_=>none
  |_,_=>none
 |_=>none
theorem zll {P:Program}{o:Oper}{tm:Nat->AV}{mem:Mem}{nm:Nat}{sc:Prop}{e:aN}(h:ME P o tm mem nm=some (sc,e))(hsc:sc):bJ P o tm (e.mr mem) nm e.res (e.mw mem):=by
 unfold ME at h;split at h
 ·rename_i c ho;split at h
  ·rename_i hcal;split at h
   ·rename_i T x hT hx;split at h
    ·rename_i E te b hE hv;obtain⟨ti,h1,h2,h3⟩:=BZ hE;split at h
     ·rename_i ps U hb;cases h;exact zef ho hcal hT h1 h2 hx hv hb
     ·cases h
    ·cases h
   ·cases h
  ·rename_i hcal;split at h
   ·rename_i T U x y hT hA;split at h
    ·rename_i E te E2 te2 b hE hU hv2;obtain⟨ti,h1,h2,h3⟩:=BZ hE;obtain⟨ti2,h4,h5,h6⟩:=BZ hU;split at h
     ·rename_i qs E' hb;split at h
      ·rename_i hc;obtain⟨rfl,c1,c2,c3⟩:=hc;split at h
       ·rename_i hv;cases h;have:=Jo (o:=o) (nm:=nm) (a:=none) (ps:=[]) ho hcal (mC hT) (mC hA) h1 h2 h3 c1 c2 c3 ⟨_,uU h4 h5⟩ (.inl ⟨hv,rfl,rfl⟩) hv2 hb (by simpa using hsc);simpa using this
       ·rename_i a hv;split at h
        ·rename_i ps E'' ha;split at h
         ·rename_i he;subst he;cases h;have:=Jo (o:=o) (nm:=nm) (a:=some a) (ps:=ps) ho hcal (mC hT) (mC hA) h1 h2 h3 c1 c2 c3 ⟨_,uU h4 h5⟩ (.inr ⟨a,hv,rfl,ha⟩) hv2 hb hsc;simpa using this
         ·cases h
        ·cases h
       ·cases h
      ·cases h
     ·cases h
    ·cases h
   ·cases h
  ·cases h
 ·rename_i T x i ho;split at h
  ·rename_i E te b n hE hv hi;obtain⟨ti,h1,h2,h3⟩:=BZ hE;split at h
   ·rename_i ps U hb;split at h
    ·rename_i hc;cases h;exact zeh (j:=n.toNat) ho h1 h2 h3 hc.2.2 hv (by rw[hi,Int.toNat_of_nonneg hc.1]) hb (by omega)
    ·cases h
   ·cases h
  ·cases h
 ·rename_i T x ho;split at h
  ·rename_i ti b j hti hv;split at h
   ·rename_i ps U hb;split at h
    ·rename_i p hp;split at h
     ·rename_i hg;cases h;exact zee ho hti hg hv hb hp
     ·cases h
    ·cases h
   ·cases h
  ·cases h
 ·rename_i T parts ho;split at h
  ·rename_i E te t hE hp;obtain⟨ti,h1,h2,h3⟩:=BZ hE;have hp':parts=#[(0,.tmp t)]:=by cases parts;simp at hp;simp[hp]
   subst hp';split at h
   ·rename_i p hv;split at h
    ·rename_i hc;cases h;exact zes ho h1 h2 h3 hc.1 hc.2 hv
    ·cases h
   ·cases h
  ·cases h
 ·cases h
noncomputable def wV (P:Program)(o:Oper)(tm:Nat->AV)(mem:Mem)(nm:Nat):Option (Prop×aN):=
 match MC P o tm mem nm with
 |some e=>some (True,e)
 |none=>match I6 P o tm mem nm with
  |some r=>some r
  |none=>match MF P o tm mem nm (YO tm o)with
   |some r=>some r
   |none=>ME P o tm mem nm
theorem Tb {P:Program}{o:Oper}{tm:Nat->AV}{mem:Mem}{nm:Nat}{sc:Prop}{e:aN}(h:wV P o tm mem nm=some (sc,e))(hsc:sc):bJ P o tm (e.mr mem) nm e.res (e.mw mem):=by
 unfold wV at h;split at h
 ·cases h;exact zli ‹_›
 ·split at h
  ·cases h;exact Ta ‹_› hsc
  ·split at h
   ·cases h;exact zlm ‹_› hsc
   ·exact zll h hsc
end Go.AI
namespace Go.AI
inductive It where
 |code (c:Code)
 |blk (id:Nat)
 |stop (B:X->Prop)
 |ops (ops:Array Oper) (rest:List Oper) (i:Nat) (ft:List (List Nat×List Nat)) (draw:Bool)
 |br (v:AV) (a b:Code)
 |gd (v:AV) (wa:Bool) (ops:Array Oper) (o:Oper) (rest:List Oper) (i:Nat) (ft:List (List Nat×List Nat)) (draw:Bool)
 |uI (r:Option (Prop×aN)) (ops:Array Oper) (o:Oper) (rest:List Oper) (i:Nat) (ft:List (List Nat×List Nat)) (draw:Bool)
def LF (ops:Array Oper)(g:Nat)(tm:Nat->AV):Option Value:=
 match ops[g]? with
 |some p=>match p.dst with
  |some d=>match tm d with
   |.d (.v y)=>some y
   |_=>none
  |none=>none
 |none=>none
def pB (ops:Array Oper)(g:Nat)(tm:Nat->AV):Option Bool:=
 match ops[g]? with
 |some p=>match p.dst with
  |some d=>match tm d with
   |.d (.v (.bool b))=>some b
   |_=>none
  |none=>none
 |none=>none
def lY (nt:Nat):Option Nat->Bool
 |some d=>decide (d<nt)
 |none=>true
def yM (id:Nat):List It->Option (List It)
 |[]=>none
 |.blk i::k=>if i=id then some k else yM id k
 |_::k=>yM id k
def j7 :It->Bool
 |.ops _ _ _ _ _=>true
 |.br _ _ _=>true
 |.gd _ _ _ _ _ _ _ _=>true
 |.uI _ _ _ _ _ _ _=>true
 |_=>false
def clean (k:List It):Bool:=k.all λi=>!j7 i
theorem AA {id:Nat}:∀{k k':List It},clean k=true->yM id k=some k'->clean k'=true
 |[],_,_,h=>by cases h
 |.blk i::k,k',hc,h=>by
  simp only[yM]at h;simp only[clean,yE,bL]at hc;split at h
  ·cases h;exact hc.2
  ·exact AA hc.2 h
 |.code c::k,k',hc,h=>by simp only[clean,yE,bL]at hc;exact AA hc.2 h
 |.stop c::k,k',hc,h=>by simp only[clean,yE,bL]at hc;exact AA hc.2 h
 |.ops _ _ _ _ _::k,k',hc,h=>by simp only[clean,yE,bL]at hc;exact AA hc.2 h
 |.br _ _ _::k,k',hc,h=>by simp only[clean,yE,bL]at hc;exact AA hc.2 h
 |.gd _ _ _ _ _ _ _ _::k,k',hc,h=>by simp only[clean,yE,bL]at hc;exact AA hc.2 h
 |.uI _ _ _ _ _ _ _::k,k',hc,h=>by simp only[clean,yE,bL]at hc;exact AA hc.2 h
abbrev Fin :=Exit->Act->World->Prop
section
variable {ro : Option Nat} {dp : Nat} {J : Names -> (Nat -> Prop) -> World -> Prop}
def eE (ro:Option Nat)(dp:Nat)(J:Names->(Nat->Prop)->World->Prop)(E:Ctx):List It->Fin->Fin
 |[],Q,e,a,w=>Q e a w
 |.code c::k,Q,.normal,a,w=>c.wpIn (FW ro) dp E.P (eE ro dp J E k Q) a w
 |.code _::k,Q,e,a,w=>eE ro dp J E k Q e a w
 |.blk id::k,Q,.exit i,a,w=>if i=id then eE ro dp J E k Q .normal a w else eE ro dp J E k Q (.exit i) a w
 |.blk _::k,Q,e,a,w=>eE ro dp J E k Q e a w
 |.stop B::_,_,.normal,a,w=>∃x,Rel E x.den a w/\B x
 |.stop _::k,Q,e,a,w=>eE ro dp J E k Q e a w
 |.ops _ _ _ _ _::k,Q,e,a,w=>eE ro dp J E k Q e a w
 |.br _ _ _::k,Q,e,a,w=>eE ro dp J E k Q e a w
 |.gd _ _ _ _ _ _ _ _::k,Q,e,a,w=>eE ro dp J E k Q e a w
 |.uI _ _ _ _ _ _ _::k,Q,e,a,w=>eE ro dp J E k Q e a w
def tE (E:Ctx)(R:Exit->X->Prop):Fin:=λe a w=>∃x,Rel E x.den a w/\R e x
def aH (ro:Option Nat)(dp:Nat)(J:Names->(Nat->Prop)->World->Prop)(P:Program)(nt:Nat)(R:Exit->X->Prop)(body:Code)(k:List It)(x:X):Prop:=
 ∀E:Ctx,E.P=P->E.nt=nt->(∀s σ I a w,pF E s σ I a w->J σ I w)->∀a w,Rel E x.den a w->(Code.loop body).wpIn (FW ro) dp P (eE ro dp J E k (tE E R)) a w
inductive CI (ro:Option Nat)(dp:Nat)(J:Names->(Nat->Prop)->World->Prop)(P:Program)(nt:Nat)(R:Exit->X->Prop):List It->X->Prop
 |fin {x:X} (h:R .normal x):CI ro dp J P nt R [] x
 |stop {B:X->Prop} {k:List It} {x:X} (h:B x):CI ro dp J P nt R (.stop B::k) x
 |blk {id:Nat} {k:List It} {x:X} (h:CI ro dp J P nt R k x):CI ro dp J P nt R (.blk id::k) x
 |skip {k:List It} {x:X} (h:CI ro dp J P nt R k x):CI ro dp J P nt R (.code .skip::k) x
 |label {l:Nat} {k:List It} {x:X} (h:CI ro dp J P nt R k x):CI ro dp J P nt R (.code (.label l)::k) x
 |seq {c d:Code} {k:List It} {x:X} (h:CI ro dp J P nt R (.code c:: .code d::k) x):CI ro dp J P nt R (.code (.seq c d)::k) x
 |block {id:Nat} {c:Code} {k:List It} {x:X} (h:CI ro dp J P nt R (.code c:: .blk id::k) x):CI ro dp J P nt R (.code (.block id c)::k) x
 |cond {o:Operand} {c d:Code} {k:List It} {x:X} {t:Bool} (ho:ev (cI x.tm) o=.d (.v (.bool t)))
   (h1:t=true->CI ro dp J P nt R (.code c::k) x) (h2:t=false->CI ro dp J P nt R (.code d::k) x):CI ro dp J P nt R (.code (.cond o c d)::k) x
 |Qm {o:Operand} {c d:Code} {k:List It} {x:X} (ho:ev (cI x.tm) o=.ab) (h1:CI ro dp J P nt R (.code c::k) x) (h2:CI ro dp J P nt R (.code d::k) x):CI ro dp J P nt R (.code (.cond o c d)::k) x
 |exit {id:Nat} {k k':List It} {x:X} (hp:yM id k=some k') (h:CI ro dp J P nt R k' x):CI ro dp J P nt R (.code (.exit id)::k) x
 |ret {k:List It} {x:X} (h:R .ret x):CI ro dp J P nt R (.code .ret::k) x
 |goto {l:Nat} {k:List It} {x:X} (h:R (.goto l) x):CI ro dp J P nt R (.code (.goto l)::k) x
 |Iw {ops:Array Oper} {o:Oper} {rest:List Oper} {i:Nat} {ft:List (List Nat×List Nat)} {k:List It} {x:X} (y:X) (ch:List PanicEntry) (hg:o.guard=none) (hpl:xF o=true)
   (he:∀(E:Ctx) (s:S) a w,E.P=P->E.nt=nt->s.tm=cI x.tm->s.mm=cK x.mm->(∀b,x.nx+64*i<=b->s.fr b)->Rel E s a w->∀(next:Act->World->Prop) (Q:Exit->Act->World->Prop),(∀a' w',Rel E y.den a' w'->Q (.panic ch) a' w')->o.wp P a w next Q)
   (h:R (.panic ch) y):CI ro dp J P nt R (.ops ops (o::rest) i ft false::k) x
 |loop {c:Code} {k:List It} {x:X} (h:aH ro dp J P nt R c k x):CI ro dp J P nt R (.code (.loop c)::k) x
 |region {id:Nat} {ops:Array Oper} {draw:Bool} {k:List It} {x:X} (h:CI ro dp J P nt R (.ops ops ops.toList 0 [] draw::k) x):CI ro dp J P nt R (.code (.region id ops draw)::k) x
 |WJ {ops:Array Oper} {i:Nat} {ft:List (List Nat×List Nat)} {draw:Bool} {k:List It} {x:X} (hd:draw=true->∃pre,IV ops pre=true/\RC pre ft=true)
   (h:CI ro dp J P nt R k ⟨x.tm,x.mm,x.nx+64*i⟩):CI ro dp J P nt R (.ops ops [] i ft draw::k) x
 |op {ops:Array Oper} {o:Oper} {rest:List Oper} {i:Nat} {ft:List (List Nat×List Nat)} {draw:Bool} {k:List It} {x:X} (e:aN) (hdst:lY nt o.dst=true)
   (hg:o.guard=none\/∃g wa,o.guard=some (g,wa)/\pB ops g (cI x.tm)=some wa)
   (he:EA ro dp J P o (cI x.tm) (e.mr (cK x.mm)) (x.nx+64*i) e.res (e.mw (cK x.mm)))
   (h:CI ro dp J P nt R (.ops ops rest (i+1) (ft++[e.qQ]) draw::k) (x.app o.dst e)):CI ro dp J P nt R (.ops ops (o::rest) i ft draw::k) x
 |PQ {ops:Array Oper} {o:Oper} {rest:List Oper} {i:Nat} {ft:List (List Nat×List Nat)} {draw:Bool} {k:List It} {x:X} {g:Nat} {wa:Bool} {y:Value} (hdst:lY nt o.dst=true)
   (hg:o.guard=some (g,wa)) (hb:LF ops g (cI x.tm)=some y) (hne:yb y≠some wa)
   (h:CI ro dp J P nt R (.ops ops rest (i+1) (ft++[([],[])]) draw::k) (x.app o.dst ⟨.d (.v undef),[],[]⟩)):CI ro dp J P nt R (.ops ops (o::rest) i ft draw::k) x
 |weak {k:List It} {x y:X} (hk:clean k=true) (hs:∀(E:Ctx) a w,Rel E x.den a w->Rel E y.den a w) (h:CI ro dp J P nt R k y):CI ro dp J P nt R k x
 |cut {k:List It} {x:X} (hk:clean k=true) (h:∀E:Ctx,E.P=P->E.nt=nt->(∀s σ I a w,pF E s σ I a w->J σ I w)->∀a w,Rel E x.den a w->eE ro dp J E k (tE E R) .normal a w):CI ro dp J P nt R k x
theorem Z6 {E:Ctx}{Q:Fin}{id:Nat}{a:Act}{w:World}:∀{k k':List It},yM id k=some k'->eE ro dp J E k' Q .normal a w->eE ro dp J E k Q (.exit id) a w
 |[],_,h,_=>by cases h
 |i::k,k',h,hq=>by
  cases i with
  |blk j=>
   simp only[yM]at h;simp only[eE];split at h
   ·rename_i e;cases h;subst e;simp;exact hq
   ·rename_i e;rw[aT λx=>e x.symm];exact Z6 h hq
  |_=>simp only[yM]at h;simp only[eE];exact Z6 h hq
theorem Su {E:Ctx}{Q:Fin}{a:Act}{w:World}:∀(k:List It),Q .ret a w->eE ro dp J E k Q .ret a w
 |[],h=>h
 |i::k,h=>by cases i<;>(simp only[eE];exact Su k h)
theorem Sw {E:Ctx}{Q:Fin}{l:Nat}{a:Act}{w:World}:∀(k:List It),Q (.goto l) a w->eE ro dp J E k Q (.goto l) a w
 |[],h=>h
 |i::k,h=>by cases i<;>(simp only[eE];exact Sw k h)
theorem Sv {E:Ctx}{Q:Fin}{l:List PanicEntry}{a:Act}{w:World}:∀(k:List It),Q (.panic l) a w->eE ro dp J E k Q (.panic l) a w
 |[],h=>h
 |i::k,h=>by cases i<;>(simp only[eE];exact Sv k h)
theorem zdS {E:Ctx}{ops:Array Oper}{Q:Exit->Act->World->Prop}{effs:Nat->aN}{nx:Nat}{s:S}{n:Nat}(hn:n<ops.size)
  (hok:∀i o,i<n->ops[i]? =some o->x7 ro dp J E ops o (after ops effs nx s (λ_=>true) i) (nx+64*i) (effs i)) (hfr:∀b,nx<=b->s.fr b) (hJ:∀s σ I a w,pF E s σ I a w->J σ I w)
  (hQ:∀a w,Rel E (after ops effs nx s (λ_=>true) n) a w->wpOpsIn (FW ro) dp E.P ops Q (List.range' n (ops.size-n)) a w):
  ∀m i,i+m=n->∀a w,Rel E (after ops effs nx s (λ_=>true) i) a w->wpOpsIn (FW ro) dp E.P ops Q (List.range' i (ops.size-i)) a w:=by
 intro m;induction m with
 |zero=>intro i hi a w hr;obtain rfl:i=n:=by omega
        exact hQ a w hr
 |succ m ih=>
  intro i hi a w hr;have ho:ops[i]? =some ops[i]:=uQ (by omega);rw[show ops.size-i=(ops.size-(i+1))+1 by omega,List.range'_succ,wpOpsIn_cons];refine T6 ho (hok i _ (by omega) ho) (λb hb=>?_) hr hJ (λa' w' hr'=>ih (i+1) (by omega) a' w' ?_)
  ·rw[L7];exact⟨hfr b (by have:=hb.1;omega),λj hj _ hj'=>by have:=hb.1;have:=hj'.2;omega⟩
  ·simp only[after,ho];exact hr'
theorem zhc {ops:Array Oper}{g:Nat}{tm:Nat->AV}{y:Value}(h:LF ops g tm=some y):∃p d,ops[g]? =some p/\p.dst=some d/\tm d=.d (.v y):=by
 unfold LF at h
 grind
theorem zhw {ops:Array Oper}{g:Nat}{tm:Nat->AV}{b:Bool}(h:pB ops g tm=some b):∃p d,ops[g]? =some p/\p.dst=some d/\tm d=.d (.v (.bool b)):=by
 unfold pB at h
 grind
theorem Rel.fr {E:Ctx}{s s':S}{a:Act}{w:World}(h:Rel E s a w)(h1:s'.tm=s.tm)(h2:s'.mm=s.mm)(h3:∀b,s'.fr b->s.fr b):Rel E s' a w:=by
 obtain⟨σ,I,h⟩:=h;refine⟨σ,I,h.size,h.wQ,by rw[h1];exact h.tm,by rw[h2];exact h.mm,λb hb=>h.free b (h3 b hb),h.ib,h.i0,h.kQ,by rw[h2];exact h.mine,h.os,h.tape,h.output,h.hs,h.frame,h.keep,h.low⟩
theorem St {ops:Array Oper}{nx:Nat}{s0:S}{tr tr':List aN}:∀(i:Nat),(∀j,j<i->tr.getD j ⟨.any,[],[]⟩=tr'.getD j ⟨.any,[],[]⟩)->
  after ops (λj=>tr.getD j ⟨.any,[],[]⟩) nx s0 (λ_=>true) i=after ops (λj=>tr'.getD j ⟨.any,[],[]⟩) nx s0 (λ_=>true) i
 |0,_=>rfl
 |i+1,h=>by
  simp only[after,fK,h i (by omega)];rw[St i (λj hj=>h j (by omega))]
def O0 (ro:Option Nat)(dp:Nat)(J:Names->(Nat->Prop)->World->Prop)(E:Ctx)(ops:Array Oper)(s0:S)(nx:Nat)(tr:List aN)(i:Nat)(x:X):Prop:=
 tr.length=i/\x.nx=nx/\x.den.tm=(after ops (λj=>tr.getD j ⟨.any,[],[]⟩) nx s0 (λ_=>true) i).tm/\
  x.den.mm=(after ops (λj=>tr.getD j ⟨.any,[],[]⟩) nx s0 (λ_=>true) i).mm/\
  ∀j o,j<i->ops[j]? =some o->x7 ro dp J E ops o (after ops (λj=>tr.getD j ⟨.any,[],[]⟩) nx s0 (λ_=>true) j) (nx+64*j) (tr.getD j ⟨.any,[],[]⟩)
theorem O0.next {E:Ctx}{ops:Array Oper}{s0:S}{nx:Nat}{tr:List aN}{i:Nat}{x:X}(h:O0 ro dp J E ops s0 nx tr i x){o:Oper}(ho:ops[i]? =some o){e:aN}
  (hok:x7 ro dp J E ops o (after ops (λj=>tr.getD j ⟨.any,[],[]⟩) nx s0 (λ_=>true) i) (nx+64*i) e):O0 ro dp J E ops s0 nx (tr++[e]) (i+1) (x.app o.dst e):=by
 obtain⟨h1,h2,h3,h4,h5⟩:=h;have hold:∀j,j<i->(tr++[e]).getD j ⟨.any,[],[]⟩=tr.getD j ⟨.any,[],[]⟩:=λj hj=>by
  simp[qX (show j<tr.length by omega)]
 have hnew:(tr++[e]).getD i ⟨.any,[],[]⟩=e:=by
  simp[<-h1]
 have ha:∀j,j<=i->after ops (λj=>(tr++[e]).getD j ⟨.any,[],[]⟩) nx s0 (λ_=>true) j=after ops (λj=>tr.getD j ⟨.any,[],[]⟩) nx s0 (λ_=>true) j:=
  λj hj=>St j (λq hq=>hold q (by omega))
 refine⟨by simp[h1],h2,?_,?_,λj o' hj hj'=>?_⟩
 ·rw[(X.Qd x o.dst e).1];simp only[after,fK,ha i (bY _),ho,JJ,S.app,hnew,h3]
 ·rw[(X.Qd x o.dst e).2];simp only[after,fK,ha i (bY _),JJ,S.app,hnew,h4]
 ·rw[ha j (by omega)];by_cases e':j=i
  ·subst e';rw[ho]at hj';cases hj';rw[hnew];exact hok
  ·rw[hold j (by omega)];exact h5 j o' (by omega) hj'
theorem AO {P:Program}{nt:Nat}{R:Exit->X->Prop}(hm:P.follows .mixedOrders=true){k:List It}{x:X}(h:CI ro dp J P nt R k x):
  ∀E:Ctx,E.P=P->E.nt=nt->(∀s σ I a w,pF E s σ I a w->J σ I w)->
   ((clean k=true->∀a w,Rel E x.den a w->eE ro dp J E k (tE E R) .normal a w)/\
    ∀ops rest i ft draw k',k=.ops ops rest i ft draw::k'->clean k'=true->∀tr s0 nx,tr.map aN.qQ=ft->ops.toList.drop i=rest->i<=ops.size->O0 ro dp J E ops s0 nx tr i x->(∀b,nx<=b->s0.fr b)->
     ∀a w id,Rel E s0 a w->(Code.region id ops draw).wpIn (FW ro) dp P (eE ro dp J E k' (tE E R)) a w):=by
 induction h with
 |fin h=>exact λE hP hn hJ=>⟨λ_ a w hr=>⟨_,hr,h⟩,λ_ _ _ _ _ _ h=>by cases h⟩
 |stop h=>exact λE hP hn hJ=>⟨λ_ a w hr=>⟨_,hr,h⟩,λ_ _ _ _ _ _ h=>by cases h⟩
 |blk h ih=>exact λE hP hn hJ=>⟨λhc a w hr=>(ih E hP hn hJ).1 (by simpa[clean,j7]using hc) a w hr,λ_ _ _ _ _ _ h=>by cases h⟩
 |skip h ih=>exact λE hP hn hJ=>⟨λhc a w hr=>wpIn_skip ((ih E hP hn hJ).1 (by simpa[clean,j7]using hc) a w hr),λ_ _ _ _ _ _ h=>by cases h⟩
 |label h ih=>exact λE hP hn hJ=>⟨λhc a w hr=>wpIn_label ((ih E hP hn hJ).1 (by simpa[clean,j7]using hc) a w hr),λ_ _ _ _ _ _ h=>by cases h⟩
 | @seq c d k x h ih=>
   refine λE hP hn hJ=>⟨λhc a w hr=>wpIn_seq ?_,λ_ _ _ _ _ _ h=>by cases h⟩;have:=(ih E hP hn hJ).1 (by simpa[clean,j7]using hc) a w hr;simp only[eE]at this;refine AP this (λe a w h=>?_);cases e<;>simp only[eE,Exit.then]at h⊢<;>exact h
 | @block id c k x h ih=>
   refine λE hP hn hJ=>⟨λhc a w hr=>wpIn_block ?_,λ_ _ _ _ _ _ h=>by cases h⟩;have:=(ih E hP hn hJ).1 (by simpa[clean,j7]using hc) a w hr;simp only[eE]at this;refine AP this (λe a w h=>?_);cases e<;>simp only[eE,Exit.inBlock]at h⊢<;>exact h
 | @cond o c d k x t ho h1 h2 ih1 ih2=>
   refine λE hP hn hJ=>⟨λhc a w hr=>?_,λ_ _ _ _ _ _ h=>by cases h⟩;have hv:a.eval o=.bool t:=by
    obtain⟨σ,I,hr⟩:=hr;exact Th (ho▸dG (tm:=x.den.tm) λs e=>hr.tm s)
   cases t with
   |true=>exact wpIn_cond_true hv ((ih1 rfl E hP hn hJ).1 (by simpa[clean,j7]using hc) a w hr)
   |false=>exact wpIn_cond_false hv ((ih2 rfl E hP hn hJ).1 (by simpa[clean,j7]using hc) a w hr)
 | @Qm o c d k x ho h1 h2 ih1 ih2=>
   refine λE hP hn hJ=>⟨λhc a w hr=>?_,λ_ _ _ _ _ _ h=>by cases h⟩;obtain⟨t,hv⟩:∃t,a.eval o=.bool t:=by
    obtain⟨σ,I,hr⟩:=hr;have:=dG (σ:=σ) (I:=I) (w:=w) (tm:=x.den.tm) (a:=a) (x:=o) λs e=>hr.tm s;rw[show ev x.den.tm o=.ab from ho]at this;generalize a.eval o=u at this;cases this with
    |ab t=>exact⟨t,rfl⟩
   cases t with
   |true=>exact wpIn_cond_true hv ((ih1 E hP hn hJ).1 (by simpa[clean,j7]using hc) a w hr)
   |false=>exact wpIn_cond_false hv ((ih2 E hP hn hJ).1 (by simpa[clean,j7]using hc) a w hr)
 |exit hp h ih=>exact λE hP hn hJ=>⟨λhc a w hr=>wpIn_exit (Z6 hp ((ih E hP hn hJ).1 (AA (by simpa[clean,j7]using hc) hp) a w hr)),λ_ _ _ _ _ _ h=>by cases h⟩
 |ret h=>exact λE hP hn hJ=>⟨λ_ a w hr=>wpIn_ret (by exact Su _ ⟨_,hr,h⟩),λ_ _ _ _ _ _ h=>by cases h⟩
 |loop h=>exact λE hP hn hJ=>⟨λ_ a w hr=>by subst hP;exact h E rfl hn hJ a w hr,λ_ _ _ _ _ _ h=>by cases h⟩
 | @region id ops draw k x h ih=>
   refine λE hP hn hJ=>⟨λhc a w hr=>?_,λ_ _ _ _ _ _ h=>by cases h⟩;have:=(ih E hP hn hJ).2 ops ops.toList 0 [] draw k rfl (by simpa[clean,j7]using hc) [] x.den x.nx rfl rfl (y8 _) ⟨rfl,rfl,rfl,rfl,λj o hj=>by omega⟩ (λb hb=>hb) a w id hr;subst hP;exact this
 | @WJ ops i ft draw k x hd h ih=>
   refine λE hP hn hJ=>⟨λhc=>by simp[clean,j7]at hc,λops' rest' i' ft' draw' k' he hc tr s0 nx hft hdrop hle hst hfr a w id hr=>?_⟩;cases he;subst hft;have hi:i=ops.size:=by
    have:=jW List.length hdrop;simp at this;omega
   subst hi;obtain⟨g1,g2,g3,g4,g5⟩:=hst;subst hP;have hok:∀j o,ops[j]? =some o->x7 ro dp J E ops o (after ops (λj=>tr.getD j ⟨.any,[],[]⟩) nx s0 (λ_=>true) j) (nx+64*j) (tr.getD j ⟨.any,[],[]⟩):=
    λj o hj=>g5 j o (qZ.1 hj).1 hj
   have hQ:∀a w,Rel E (after ops (λj=>tr.getD j ⟨.any,[],[]⟩) nx s0 (λ_=>true) ops.size) a w->eE ro dp J E k (tE E R) .normal a w:=by
    intro a w hr';refine(ih E rfl hn hJ).1 hc a w (hr'.fr g3 g4 (λb hb=>?_));rw[L7];have hb':x.nx+64*ops.size<=b:=hb;rw[g2]at hb';exact⟨hfr b (by omega),λj hj _ hf=>by have:=hf.2;omega⟩
   cases draw with
   |false=>exact zcj hok hfr hJ hr hQ
   |true=>
    obtain⟨pre,q1,q2⟩:=hd rfl;exact zck hm _ (ziu q1) (zit q1 g1 q2) hok hfr hJ hr hQ
 | @op ops o rest i ft draw k x e hdst hg he h ih=>
   refine λE hP hn hJ=>⟨λhc=>by simp[clean,j7]at hc,λops' rest' i' ft' draw' k' hee hc tr s0 nx hft hdrop hle hst hfr a w id hr=>?_⟩;cases hee;subst hft;have hlt:i<ops.size:=by
    have:=jW List.length hdrop;simp at this;omega
   have ho:ops[i]? =some o:=by
    have:(ops.toList.drop i)[0]? =some o:=by rw[hdrop];rfl
    simpa using this
   have hdrop':ops.toList.drop (i+1)=rest:=by
    have:=jW List.tail hdrop;simpa[List.tail_drop]using this
   refine(ih E hP hn hJ).2 ops rest (i+1) _ draw k rfl hc (tr++[e]) s0 nx (by simp) hdrop' hlt (hst.next ho ?_) hfr a w id hr;subst hP;subst hn;obtain⟨g1,g2,g3,g4,g5⟩:=hst;refine⟨λd hd=>by simpa[lY,hd]using hdst,?_⟩;rw[<-g3,<-g4,<-g2];rcases hg with hg|⟨g,wa,hg,hb⟩
   ·exact .inl ⟨hg,he⟩
   ·obtain⟨p,d,p1,p2,p3⟩:=zhw hb;exact .inr ⟨g,wa,p,d,.bool wa,hg,p1,p2,p3,.inl ⟨rfl,he⟩⟩
 | @PQ ops o rest i ft draw k x g wa y hdst hg hb hne h ih=>
   refine λE hP hn hJ=>⟨λhc=>by simp[clean,j7]at hc,λops' rest' i' ft' draw' k' hee hc tr s0 nx hft hdrop hle hst hfr a w id hr=>?_⟩;cases hee;subst hft;have hlt:i<ops.size:=by
    have:=jW List.length hdrop;simp at this;omega
   have ho:ops[i]? =some o:=by
    have:(ops.toList.drop i)[0]? =some o:=by rw[hdrop];rfl
    simpa using this
   have hdrop':ops.toList.drop (i+1)=rest:=by
    have:=jW List.tail hdrop;simpa[List.tail_drop]using this
   refine(ih E hP hn hJ).2 ops rest (i+1) _ draw k rfl hc (tr++[⟨.d (.v undef),[],[]⟩]) s0 nx (by simp[aN.qQ]) hdrop' hlt (hst.next ho ?_) hfr a w id hr;subst hP;subst hn;obtain⟨g1,g2,g3,g4,g5⟩:=hst;refine⟨λd hd=>by simpa[lY,hd]using hdst,?_⟩;obtain⟨p,d,p1,p2,p3⟩:=zhc hb;refine .inr ⟨g,wa,p,d,y,hg,p1,p2,?_,.inr ⟨hne,rfl⟩⟩;rw[<-g3];exact p3
 |goto h=>exact λE hP hn hJ=>⟨λ_ a w hr=>wpIn_goto (by exact Sw _ ⟨_,hr,h⟩),λ_ _ _ _ _ _ h=>by cases h⟩
 | @Iw ops o rest i ft k x y ch hg hpl he h=>
   refine λE hP hn hJ=>⟨λhc=>by simp[clean,j7]at hc,λops' rest' i' ft' draw' k' hee hc tr s0 nx hft hdrop hle hst hfr a w id hr=>?_⟩;cases hee;subst hft;have hlt:i<ops.size:=by
    have:=jW List.length hdrop;simp at this;omega
   have ho:ops[i]? =some o:=by
    have:(ops.toList.drop i)[0]? =some o:=by rw[hdrop];rfl
    simpa using this
   obtain⟨g1,g2,g3,g4,g5⟩:=hst;subst hP;refine wpIn_region ?_;rw[List.range_eq_range'];refine zdS hlt g5 hfr hJ (λa w hr'=>?_) i 0 (by omega) a w hr;rw[show ops.size-i=(ops.size-(i+1))+1 by omega,List.range'_succ,wpOpsIn_cons];unfold wpOpIn;have hw:Region.wanted o (yielded ops a.tmps)=true:=by simp[Region.wanted,hg]
   simp only[ho,hw,fK];refine T5 hpl (he E _ a w rfl hn g3.symm g4.symm (λb hb=>?_) hr' _ _ λa' w' h'=>Sv k ⟨y,h',h⟩);rw[L7];exact⟨hfr b (by omega),λj hj _ hf=>by have:=hf.2;omega⟩
 |weak hk hs h ih=>
  refine λE hP hn hJ=>⟨λhc a w hr=>(ih E hP hn hJ).1 hc a w (hs E a w hr),λops' rest' i' tr' draw' k' hee=>?_⟩;subst hee;simp[clean,j7]at hk
 |cut hk h=>
  refine λE hP hn hJ=>⟨λhc a w hr=>h E hP hn hJ a w hr,λops' rest' i' tr' draw' k' hee=>?_⟩;subst hee;simp[clean,j7]at hk
end
def jG (ops:Array Oper)(ft:List (List Nat×List Nat)):Prop:=IV ops (Ho ops.toList)=true/\RC (Ho ops.toList) ft=true
instance (ops:Array Oper) (ft:List (List Nat×List Nat)):Decidable (jG ops ft):=inferInstanceAs (Decidable (_/\_))
def DU (ops:Array Oper)(g:Nat)(tm:Nat->AV):AV:=
 match ops[g]? with
 |some p=>match p.dst with
  |some d=>tm d
  |none=>.any
 |none=>.any
theorem YN {ops:Array Oper}{g:Nat}{tm:Nat->AV}{y:Value}(h:DU ops g tm=.d (.v y)):LF ops g tm=some y:=by
 unfold DU at h;unfold LF
 grind
theorem Oz {ops:Array Oper}{g:Nat}{tm:Nat->AV}{b:Bool}(h:DU ops g tm=.d (.v (.bool b))):pB ops g tm=some b:=by
 unfold DU at h;unfold pB
 grind
def lL :List It->Bool
 |[]=>true
 |_::k=>clean k
theorem FK :∀{k:List It},clean k=true->lL k=true
 |[],_=>rfl
 |_::k,h=>by simp only[clean,yE,bL]at h;exact h.2
section
variable {ro : Option Nat} {dp : Nat} {J : Names -> (Nat -> Prop) -> World -> Prop}
noncomputable def bP (ro:Option Nat)(dp:Nat)(J:Names->(Nat->Prop)->World->Prop)(P:Program)(nt:Nat)(R:Exit->X->Prop)(st:Nat):Nat->List It->X->Prop
 |0,_,_=>False
 |_+1,[],x=>R .normal x
 |_+1,.stop B::_,x=>B x
 |n+1,.blk _::k,x=>bP ro dp J P nt R st n k x
 |n+1,.br v a b::k,x=>match v with
  |.d (.v (.bool true))=>bP ro dp J P nt R st n (.code a::k) x
  |.d (.v (.bool false))=>bP ro dp J P nt R st n (.code b::k) x
  |.ab=>bP ro dp J P nt R st n (.code a::k) x/\bP ro dp J P nt R st n (.code b::k) x
  |_=>False
 |n+1,.ops ops rest i ft d::k,x=>match rest with
  |[]=>if d then(jG ops ft/\bP ro dp J P nt R st n k ⟨x.tm,x.mm,x.nx+64*i⟩)else bP ro dp J P nt R st n k ⟨x.tm,x.mm,x.nx+64*i⟩
  |o::rest=>match o.guard with
   |none=>bP ro dp J P nt R st n (.uI (wV P o (cI x.tm) (cK x.mm) (x.nx+64*i)) ops o rest i ft d::k) x
   |some (g,wa)=>bP ro dp J P nt R st n (.gd (DU ops g (cI x.tm)) wa ops o rest i ft d::k) x
 |n+1,.gd v wa ops o rest i ft d::k,x=>match v with
  |.d (.v (.bool true))=>if wa then bP ro dp J P nt R st n (.uI (wV P o (cI x.tm) (cK x.mm) (x.nx+64*i)) ops o rest i ft d::k) x
   else(lY nt o.dst=true/\bP ro dp J P nt R st n (.ops ops rest (i+1) (ft++[([],[])]) d::k) (x.app o.dst ⟨.d (.v undef),[],[]⟩))
  |.d (.v (.bool false))=>if wa then(lY nt o.dst=true/\bP ro dp J P nt R st n (.ops ops rest (i+1) (ft++[([],[])]) d::k) (x.app o.dst ⟨.d (.v undef),[],[]⟩))
   else bP ro dp J P nt R st n (.uI (wV P o (cI x.tm) (cK x.mm) (x.nx+64*i)) ops o rest i ft d::k) x
  |.d (.v (.tuple _))=>lY nt o.dst=true/\bP ro dp J P nt R st n (.ops ops rest (i+1) (ft++[([],[])]) d::k) (x.app o.dst ⟨.d (.v undef),[],[]⟩)
  |_=>False
 |n+1,.uI r ops o rest i ft d::k,x=>match r with
  |some (sc,e)=>sc/\lY nt o.dst=true/\bP ro dp J P nt R st n (.ops ops rest (i+1) (ft++[e.qQ]) d::k) (x.app o.dst e)
  |none=>CI ro dp J P nt R (.ops ops (o::rest) i ft d::k) x
 |n+1,.code c::k,x=>match c with
  |.skip=>bP ro dp J P nt R st n k x
  |.label _=>bP ro dp J P nt R st n k x
  |.seq a b=>bP ro dp J P nt R st n (.code a:: .code b::k) x
  |.block id a=>bP ro dp J P nt R st n (.code a:: .blk id::k) x
  |.cond o a b=>bP ro dp J P nt R st n (.br (ev (cI x.tm) o) a b::k) x
  |.region id ops d=>if id=st then CI ro dp J P nt R (.code (.region id ops d)::k) x else bP ro dp J P nt R st n (.ops ops ops.toList 0 [] d::k) x
  |.ret=>R .ret x
  |.exit id=>match yM id k with
   |some k'=>bP ro dp J P nt R st n k' x
   |none=>False
  |.loop a=>aH ro dp J P nt R a k x
  |_=>False
def Ob (ro:Option Nat)(dp:Nat)(J:Names->(Nat->Prop)->World->Prop)(P:Program)(nt:Nat)(R:Exit->X->Prop)(x:X):List It->Prop
 |.br v a b::k=>∀o,ev (cI x.tm) o=v->CI ro dp J P nt R (.code (.cond o a b)::k) x
 |.gd v wa ops o rest i ft d::k=>∀g,o.guard=some (g,wa)->DU ops g (cI x.tm)=v->CI ro dp J P nt R (.ops ops (o::rest) i ft d::k) x
 |.uI r ops o rest i ft d::k=>(o.guard=none\/∃g wa,o.guard=some (g,wa)/\pB ops g (cI x.tm)=some wa)->wV P o (cI x.tm) (cK x.mm) (x.nx+64*i)=r->CI ro dp J P nt R (.ops ops (o::rest) i ft d::k) x
 |k=>CI ro dp J P nt R k x
theorem Tc {P:Program}{o:Oper}{tm:Nat->AV}{mem:Mem}{nx:Nat}{r:Prop×aN}(h:wV P o tm mem nx=some r):xF o=true:=by
 unfold xF;split
 ·rename_i c hc;simp[wV,MC,MB,L9,I6,MF,ME,hc]at h;cases hg:YO tm o<;>simp[hg]at h
 ·rfl
theorem F6 {P:Program}{nt:Nat}{R:Exit->X->Prop}{x:X}:∀{k:List It},clean k=true->Ob ro dp J P nt R x k->CI ro dp J P nt R k x
 |[],_,h=>h
 |.stop _::_,_,h=>h
 |.blk _::_,_,h=>h
 |.code _::_,_,h=>h
 |.ops _ _ _ _ _::_,_,h=>h
 |.br _ _ _::_,h,_=>by simp[clean,j7]at h
 |.gd _ _ _ _ _ _ _ _::_,h,_=>by simp[clean,j7]at h
 |.uI _ _ _ _ _ _ _::_,h,_=>by simp[clean,j7]at h
theorem Fl {P:Program}{nt:Nat}{R:Exit->X->Prop}{st:Nat}:∀(n:Nat) (k:List It) (x:X),lL k=true->bP ro dp J P nt R st n k x->Ob ro dp J P nt R x k:=by
 intro n;induction n with
 |zero=>intro k x _ h;exact h.elim
 |succ n ih=>
  intro k x hg h
  match k,hg,h with
  |[],_,h=>exact .fin h
  |.stop B::k,_,h=>exact .stop h
  |.blk id::k,hg,h=>exact .blk (F6 hg (ih k x (FK hg) h))
  |.br v a b::k,hg,h=>
   intro o ho;simp only[bP]at h;split at h
   ·exact .cond ho (λ_=>ih _ x (by exact hg) h) (λe=>by cases e)
   ·exact .cond ho (λe=>by cases e) (λ_=>ih _ x (by exact hg) h)
   ·exact .Qm ho (ih _ x (by exact hg) h.1) (ih _ x (by exact hg) h.2)
   ·exact h.elim
  |.ops ops rest i ft d::k,hg,h=>
   simp only[bP]at h;split at h
   ·split at h
    ·exact .WJ (λ_=>⟨_,h.1.1,h.1.2⟩) (F6 hg (ih k _ (FK hg) h.2))
    ·rename_i hd;exact .WJ (λe=>absurd e (by simpa using hd)) (F6 hg (ih k _ (FK hg) h))
   ·split at h
    ·exact ih _ x (by exact hg) h (.inl ‹_›) rfl
    ·exact ih _ x (by exact hg) h _ ‹_› rfl
  |.gd v wa ops o rest i ft d::k,hg,h=>
   intro g hgd hv;simp only[bP]at h;split at h
   ·split at h
    ·rename_i hwa;exact ih _ x (by exact hg) h (.inr ⟨g,wa,hgd,by rw[Oz hv,hwa]⟩) rfl
    ·rename_i hwa;exact .PQ h.1 hgd (YN hv) (by intro e;simp only[yb,pX]at e;exact hwa e.symm) (ih _ _ (by exact hg) h.2)
   ·split at h
    ·rename_i hwa;exact .PQ h.1 hgd (YN hv) (by intro e;rw[hwa]at e;cases e) (ih _ _ (by exact hg) h.2)
    ·rename_i hwa;refine ih _ x (by exact hg) h (.inr ⟨g,wa,hgd,?_⟩) rfl;rw[Oz hv];cases wa
     ·rfl
     ·exact absurd rfl hwa
   ·exact .PQ h.1 hgd (YN hv) (by intro e;cases e) (ih _ _ (by exact hg) h.2)
   ·exact h.elim
  |.uI r ops o rest i ft d::k,hg,h=>
   intro hgd hr;simp only[bP]at h;split at h
   ·exact .op _ h.2.1 hgd ((Tb hr h.1).rR (Tc hr)) (ih _ _ (by exact hg) h.2.2)
   ·exact h
  |.code c::k,hg,h=>
   have hck:∀c',clean (.code c'::k)=true:=λc'=>by simp only[clean,j7,Bool.not_false,uP];exact hg
   simp only[bP]at h;split at h
   ·exact .skip (F6 hg (ih k x (FK hg) h))
   ·exact .label (F6 hg (ih k x (FK hg) h))
   ·exact .seq (ih _ x (by exact hck _) h)
   ·exact .block (ih _ x (by simp only[lL,yE,j7,Bool.not_false,uP];exact hg) h)
   ·rename_i o a b;exact ih _ x (by exact hg) h o rfl
   ·split at h
    ·exact h
    ·exact .region (ih _ x (by exact hg) h)
   ·exact .ret h
   ·split at h
    ·rename_i k' hp;exact .exit hp (F6 (AA hg hp) (ih _ x (FK (AA hg hp)) h))
    ·exact h.elim
   ·exact .loop h
   ·exact h.elim
theorem CI.run {P:Program}{nt:Nat}{R:Exit->X->Prop}(st n:Nat){k:List It}{x:X}(hc:clean k=true)(h:AI.bP ro dp J P nt R st n k x):CI ro dp J P nt R k x:=
 F6 hc (Fl n k x (FK hc) h)
theorem CI.A8 {P:Program}{nt:Nat}{R:Exit->X->Prop}(st n:Nat){ops:Array Oper}{rest:List Oper}{i:Nat}{ft:List (List Nat×List Nat)}{d:Bool}{k:List It}{x:X}(hc:clean k=true)
  (h:AI.bP ro dp J P nt R st n (.ops ops rest i ft d::k) x):CI ro dp J P nt R (.ops ops rest i ft d::k) x:=
 Fl n _ x (by exact hc) h
end
def fH (p:Nat->Bool):AV->Bool
 |.d _=>true
 |.any=>true
 |.ab=>true
 |.ptr b _=>p b
 |.own b=>p b
 |.gR b _ _ _=>p b
 |.sl b _ _ _=>p b
 |.agg cs=>iU cs
 |.aU cs=>iU cs
 |.fn _ a b=>iU a&&iU b
 |.gB _ x=>fH p x
where iU:List AV->Bool
 |[]=>true
 |x::r=>fH p x&&iU r
def aJ (p:Nat->Bool):aY->Bool
 |.cells cs _=>fH.iU p cs
 |.oJ _ _ _ _ _ c=>p c
 |.dR ps _=>ps.all p
 |_=>true
theorem xQ {p:Nat->Bool}:∀{l:List AV},fH.iU p l=true->∀(i:Nat) c,l[i]? =some c->fH p c=true
 |[],_,i,c,h=>by simp at h
 |x::r,hn,i,c,h=>by
  simp only[fH.iU,bL]at hn;cases i with
  |zero=>simp at h;rw[<-h];exact hn.1
  |succ i=>exact xQ hn.2 i c (by simpa using h)
def aY.bU (g:Nat->Nat):aY->aY
 |.cells cs T=>.cells (cs.map (AV.bU g)) T
 |.oJ ka ks va look kc c=>.oJ ka ks va look kc (g c)
 |.dR ps T=>.dR (ps.map g) T
 |k=>k
section
variable {σ σ0 : Names} {I : Nat -> Prop} {w : World} {g : Nat -> Nat} {p : Nat -> Bool}
theorem Tg (hs:∀b,p b=true->∀x,σ0 b=some x->σ (g b)=some x){a:AV}{v:Value}(h:RV σ0 I w a v)(hn:fH p a=true):RV σ I w (a.bU g) v:=by
 induction h with
 |d h=>simp only[AV.bU];exact .d h
 |any y=>simp only[AV.bU];exact .any y
 |ab t=>simp only[AV.bU];exact .ab t
 |ptr h=>simp only[AV.bU];exact .ptr (hs _ hn _ h)
 |own h h1=>simp only[AV.bU];exact .own (hs _ hn _ h) h1
 |gR h=>simp only[AV.bU];exact .gR (hs _ hn _ h)
 |sl h hs'=>simp only[AV.bU];exact .sl (hs _ hn _ h) hs'
 |agg hl _ ih=>
  simp only[AV.bU];refine .agg (by simpa using hl) (λi c x h1 h2=>?_);simp only[jX]at h1;obtain⟨c',hc',rfl⟩:=sM.1 h1;exact ih i c' x hc' h2 (xQ hn i c' hc')
 |aU hl _ ih=>
  simp only[AV.bU];refine .aU (by simpa using hl) (λi c x h1 h2=>?_);simp only[jX]at h1;obtain⟨c',hc',rfl⟩:=sM.1 h1;exact ih i c' x hc' h2 (xQ hn i c' hc')
 |fn hx hy _ _ i1 i2=>
  simp only[AV.bU];simp only[fH,bL]at hn;refine .fn (by simpa using hx) (by simpa using hy) (λi c x h1 h2=>?_) (λi c x h1 h2=>?_)
  ·simp only[jX]at h1;obtain⟨c',hc',rfl⟩:=sM.1 h1;exact i1 i c' x hc' h2 (xQ hn.1 i c' hc')
  ·simp only[jX]at h1;obtain⟨c',hc',rfl⟩:=sM.1 h1;exact i2 i c' x hc' h2 (xQ hn.2 i c' hc')
 |gB _ ih=>simp only[AV.bU];exact .gB (ih hn)
theorem ML (hs:∀b,p b=true->∀x,σ (g b)=some x->σ0 b=some x){A:AV}{v:Value}(h:RV σ I w A v):∀{a:AV},A=a.bU g->fH p a=true->RV σ0 I w a v:=by
 induction h with
 |d h=>intro a e hn;cases a<;>simp[AV.bU]at e;subst e;exact .d h
 |any y=>intro a e hn;cases a<;>simp[AV.bU]at e;exact .any y
 |ab t=>intro a e hn;cases a<;>simp[AV.bU]at e;exact .ab t
 |ptr h=>intro a e hn;cases a<;>simp[AV.bU]at e;obtain⟨rfl,rfl⟩:=e;exact .ptr (hs _ hn _ h)
 |own h h1=>intro a e hn;cases a<;>simp[AV.bU]at e;subst e;exact .own (hs _ hn _ h) h1
 |gR h=>intro a e hn;cases a<;>simp[AV.bU]at e;obtain⟨rfl,rfl,rfl,rfl⟩:=e;exact .gR (hs _ hn _ h)
 |sl h hs'=>intro a e hn;cases a<;>simp[AV.bU]at e;obtain⟨rfl,rfl,rfl,rfl⟩:=e;exact .sl (hs _ hn _ h) hs'
 |agg hl _ ih=>
  intro a e hn;cases a<;>simp[AV.bU]at e;subst e;refine .agg (by simpa using hl) (λi c x h1 h2=>?_);exact ih i (c.bU g) x (by simp[h1]) h2 rfl (xQ hn i c h1)
 |aU hl _ ih=>
  intro a e hn;cases a<;>simp[AV.bU]at e;subst e;refine .aU (by simpa using hl) (λi c x h1 h2=>?_);exact ih i (c.bU g) x (by simp[h1]) h2 rfl (xQ hn i c h1)
 |fn hx hy _ _ i1 i2=>
  intro a e hn;cases a<;>simp[AV.bU]at e;obtain⟨rfl,rfl,rfl⟩:=e;simp only[fH,bL]at hn;refine .fn (by simpa using hx) (by simpa using hy) (λi c x h1 h2=>?_) (λi c x h1 h2=>?_)
  ·exact i1 i (c.bU g) x (by simp[h1]) h2 rfl (xQ hn.1 i c h1)
  ·exact i2 i (c.bU g) x (by simp[h1]) h2 rfl (xQ hn.2 i c h1)
 |gB _ ih=>
  intro a e hn;cases a<;>simp[AV.bU]at e;obtain⟨rfl,rfl⟩:=e;exact .gB (ih rfl hn)
theorem zlu (hs:∀b,p b=true->∀x,σ0 b=some x->σ (g b)=some x){k:aY}{v:Value}(h:RB σ0 I w k v)(hn:aJ p k=true):RB σ I w (k.bU g) v:=by
 cases h with
 |cells hw hl hr=>
  refine .cells hw (by simpa using hl) (λi c x h1 h2=>?_);simp only[jX]at h1;obtain⟨c',hc',rfl⟩:=sM.1 h1;exact Tg hs (hr i c' x hc' h2) (xQ hn i c' hc')
 |none=>exact .none
 |emp a=>exact .emp a
 |grow h1 h2 h3 h4 h5 h6=>exact .grow h1 h2 h3 h4 h5 h6
 |map keys vals h1 h0 h2 h3 h4 h5=>exact .map keys vals h1 h0 h2 h3 h4 h5
 |oJ keys vals h1 hst h0 hkc hfk h2 h3 h4 h5=>exact .oJ keys vals h1 (hs _ hn _ hst) h0 hkc hfk h2 h3 h4 h5
 |iter h1 h2=>exact .iter h1 h2
 |yT=>exact .yT
 |xS a=>exact .xS a
 | @dR ps T n cap arr h1 h2 h3 h4 h5=>
   have:=RB.dR (σ:=σ) (I:=I) (ps:=ps.map g) (T:=T) h1 h2 (by simpa using h3) h4 (λi b hi=>by
    rw[jX]at hi;obtain⟨b',hb',rfl⟩:=sM.1 hi;obtain⟨m,q1,q2⟩:=h5 i b' hb';exact⟨m,hs _ (dP.1 hn b' (gT hb')) _ q1,q2⟩)
   rwa[zD]at this
theorem JB (hs:∀b,p b=true->∀x,σ (g b)=some x->σ0 b=some x){k:aY}{v:Value}(h:RB σ I w (k.bU g) v)(hn:aJ p k=true):RB σ0 I w k v:=by
 cases k with
 |cells cs T=>
  cases h with
  |cells hw hl hr=>
   refine .cells hw (by simpa using hl) (λi c x h1 h2=>?_);exact ML hs (hr i (c.bU g) x (by simp[h1]) h2) rfl (xQ hn i c h1)
 |grow sz es T=>
  cases h with
  |none=>exact .none
  |emp a=>exact .emp a
  |grow h1 h2 h3 h4 h5 h6=>exact .grow h1 h2 h3 h4 h5 h6
 |map ka ks va look=>
  cases h with
  |map keys vals h1 h0 h2 h3 h4 h5=>exact .map keys vals h1 h0 h2 h3 h4 h5
 |oJ ka ks va look kc c=>
  cases h with
  |oJ keys vals h1 hst h0 hkc hfk h2 h3 h4 h5=>exact .oJ keys vals h1 (hs _ hn _ hst) h0 hkc hfk h2 h3 h4 h5
 |iter s pos=>
  cases h with
  |iter h1 h2=>exact .iter h1 h2
 |dR ps T=>
  change RB σ I w (.dR (ps.map g) T) v at h;generalize hq:ps.map g=qs at h;cases h with
  |yT=>
   obtain rfl:ps=[]:=List.map_eq_nil_iff.1 hq;exact .yT
  |xS a=>
   obtain rfl:ps=[]:=List.map_eq_nil_iff.1 hq;exact .xS a
  |dR h1 h2 h3 h4 h5=>
   subst hq;rw[zD]at h3⊢;refine .dR h1 h2 h3 h4 (λi b hi=>?_);obtain⟨m,q1,q2⟩:=h5 i (g b) (by rw[jX,hi];rfl);exact⟨m,hs _ (dP.1 hn b (gT hi)) _ q1,q2⟩
end
def bB :List (Nat×aY)->Nat->Option aY
 |[],_=>none
 | (c,k)::r,b=>if c=b then some k else bB r b
theorem nJ {l:List (Nat×aY)}{b:Nat}{k:aY}(h:bB l b=some k):(b,k)∈l:=by
 induction l with
 |nil=>cases h
 |cons p l ih=>
  simp only[bB]at h
  grind
def MN (G:(Nat->Prop)->World->Prop)(fin:Value->Ending)(P:Program)(f:FuncId)(args:List AV)(mr m:List (Nat×aY))(res:AV)(m':List (Nat×aY)):Prop:=
 ∀(σ:Names) (I:Nat->Prop) (w:World) (vs:List Value),G I w->(∀n,I n->n<w.heap.size)->vs.length=args.length->
  (∀(i:Nat) c x,args[i]? =some c->vs[i]? =some x->RV σ I w c x)->RM σ I w (bB (mr++m))->(∀b,64<=b->σ b=none)->
  Calls P f vs.toArray w λe w'=>∃v σ' I',e=fin v/\eG σ I w (bB (mr++m)) 64 σ' I' w' (bB (mr++m'))/\RV σ' I' w' res v
def Ct (P:Program)(f:FuncId)(args:List AV)(mr m:List (Nat×aY))(res:AV)(m':List (Nat×aY)):Prop:=
 ∀(σ:Names) (I:Nat->Prop) (w:World) (vs:List Value),(∀n,I n->n<w.heap.size)->vs.length=args.length->
  (∀(i:Nat) c x,args[i]? =some c->vs[i]? =some x->RV σ I w c x)->RM σ I w (bB (mr++m))->(∀b,64<=b->σ b=none)->
  Calls P f vs.toArray w λe w'=>∃v σ' I',e=.returned v/\eG σ I w (bB (mr++m)) 64 σ' I' w' (bB (mr++m'))/\RV σ' I' w' res v
theorem Ct.F {P:Program}{f:FuncId}{args:List AV}{mr m:List (Nat×aY)}{res:AV}{m':List (Nat×aY)}(h:Ct P f args mr m res m'):MN (λ_ _=>True) .returned P f args mr m res m':=λσ I w vs _=>h σ I w vs
def FC (p:D->D->Prop):List D->List D->Prop
 |[],[]=>True
 |x::xs,y::ys=>p x y/\FC p xs ys
 |_,_=>False
def zW (p:D->D->Prop):List (List D)->List (List D)->Prop
 |[],[]=>True
 |x::xs,y::ys=>FC p x y/\zW p xs ys
 |_,_=>False
def vG :Nat->D->D->Prop
 |_,.v (.slice none 0 0),.ro _ []=>True
 |n+1,.ro fc es,.ro fc' fs=>(fc'=true->fc=true)/\(es=fs\/zW (vG n) es fs)
 |_,a,b=>a=b
abbrev XZ (a b:D):Prop:=vG 4 a b
def eQ :AV->AV->Prop
 |.d x,.d y=>XZ x y
 |.agg xs,.agg ys=>leL xs ys
 |.aU xs,.aU ys=>leL xs ys
 |.d (.v (.bool _)),.ab=>True
 |_,.any=>True
 |a,b=>a=b
where leL:List AV->List AV->Prop
 |[],[]=>True
 |x::xs,y::ys=>eQ x y/\leL xs ys
 |_,_=>False
theorem K6 {p:D->D->Prop}:∀{xs ys:List D},FC p xs ys->xs.length=ys.length/\∀(i:Nat) x y,xs[i]? =some x->ys[i]? =some y->p x y
 |[],[],_=>⟨rfl,λi x y h=>by simp at h⟩
 |x::xs,y::ys,h=>by
  obtain⟨h1,h2⟩:=K6 h.2;refine⟨by simp[h1],λi a b ha hb=>?_⟩;cases i with
  |zero=>simp at ha hb;rw[<-ha,<-hb];exact h.1
  |succ i=>exact h2 i a b (by simpa using ha) (by simpa using hb)
 |[],_::_,h=>h.elim
 |_::_,[],h=>h.elim
theorem XY {p:D->D->Prop}:∀{xs ys:List (List D)},zW p xs ys->xs.length=ys.length/\∀(i:Nat) x y,xs[i]? =some x->ys[i]? =some y->FC p x y
 |[],[],_=>⟨rfl,λi x y h=>by simp at h⟩
 |x::xs,y::ys,h=>by
  obtain⟨h1,h2⟩:=XY h.2;refine⟨by simp[h1],λi a b ha hb=>?_⟩;cases i with
  |zero=>simp at ha hb;rw[<-ha,<-hb];exact h.1
  |succ i=>exact h2 i a b (by simpa using ha) (by simpa using hb)
 |[],_::_,h=>h.elim
 |_::_,[],h=>h.elim
theorem Mz {I:Nat->Prop}{w:World}:∀(n:Nat) {a b:D} {v:Value},vG n a b->RD I w a v->RD I w b v:=by
 intro n;induction n with
 |zero=>
  intro a b v h hv;unfold vG at h;split at h
  ·cases hv;exact .nil
  ·omega
  ·simp_all
 |succ n ih=>
  intro a b v h hv;unfold vG at h;split at h
  ·cases hv;exact .nil
  ·rename_i m fc es fc' fs e;obtain rfl:n=m:=by omega
   obtain⟨hf,rfl|hl⟩:=h
   ·cases hv with
    |nil=>exact .nil
    |emp=>exact .emp
    |ro val hI h1 h2 h3 h4 h5 h6 h7=>exact .ro val hI h1 h2 h3 (λh=>h4 (hf h)) h5 h6 h7
   ·obtain⟨hll,hlg⟩:=XY hl;cases hv with
    |nil=>
     obtain rfl:fs=[]:=kH (by simpa using hll.symm);exact .nil
    |emp=>
     obtain rfl:fs=[]:=kH (by simpa using hll.symm);exact .emp
    | @ro sz _ _ blk off cap val hI h1 h2 h3 h4 h5 h6 h7=>
      have hg:∀(i:Nat) e (j:Nat) c,fs[i]? =some e->e[j]? =some c->∃e0 c0,es[i]? =some e0/\e0[j]? =some c0/\vG n c0 c:=by
       intro i e j c he hc;have hi:i<es.length:=by rw[hll];exact(cE.1 he).1
       obtain⟨q1,q2⟩:=K6 (hlg i es[i] e (bO hi) he);have hj:j<es[i].length:=by rw[q1];exact(cE.1 hc).1
       exact⟨es[i],es[i][j],bO hi,bO hj,q2 j _ c (bO hj) hc⟩
      rw[hll];refine .ro (sz:=sz) val hI (λe he=>?_) (by omega) h3 (λh=>by rw[h4 (hf h),hll]) (λi e j c he hc=>?_) (λi e j c he hc=>?_) (λi e j c he hc=>?_)
      ·obtain⟨i,hi⟩:=CM he;have hi':i<es.length:=by rw[hll];exact(cE.1 hi).1
       rw[<-(K6 (hlg i es[i] e (bO hi') hi)).1];exact h1 _ (mF _)
      ·obtain⟨e0,c0,g1,g2,_⟩:=hg i e j c he hc;exact h5 i e0 j c0 g1 g2
      ·obtain⟨e0,c0,g1,g2,g3⟩:=hg i e j c he hc;exact ih g3 (h6 i e0 j c0 g1 g2)
      ·obtain⟨e0,c0,g1,g2,_⟩:=hg i e j c he hc;exact h7 i e0 j c0 g1 g2
  ·subst h;exact hv
theorem zfZ {I:Nat->Prop}{w:World}{a b:D}{v:Value}(h:XZ a b)(hv:RD I w a v):RD I w b v:=Mz 4 h hv
theorem K5 :∀{xs ys:List AV},eQ.leL xs ys->xs.length=ys.length/\∀(i:Nat) x y,xs[i]? =some x->ys[i]? =some y->eQ x y
 |[],[],_=>⟨rfl,λi x y h=>by simp at h⟩
 |x::xs,y::ys,h=>by
  obtain⟨h1,h2⟩:=K5 h.2;refine⟨by simp[h1],λi a b ha hb=>?_⟩;cases i with
  |zero=>simp at ha hb;rw[<-ha,<-hb];exact h.1
  |succ i=>exact h2 i a b (by simpa using ha) (by simpa using hb)
 |[],_::_,h=>h.elim
 |_::_,[],h=>h.elim
theorem QM {σ:Names}{I:Nat->Prop}{w:World}{a:AV}{v:Value}(hv:RV σ I w a v):∀{b:AV},eQ a b->RV σ I w b v:=by
 induction hv with
 | @d x y hd=>
   intro b h;cases b with
   |d z=>exact .d (zfZ h hd)
   |any=>exact .any _
   |ab=>
    obtain⟨t,rfl⟩:∃t,x=.v (.bool t):=by
     cases x with
     |v y=>cases y<;>simp[eQ]at h⊢
     |_=>simp[eQ]at h
    cases hd;exact .ab _
   |_=>simp[eQ]at h
 | @agg cs xs hl hr ih=>
   intro b h;cases b with
   |agg ys=>
    obtain⟨h1,h2⟩:=K5 (by simpa[eQ]using h);refine .agg (by rw[hl,h1]) (λi c x hc hx=>?_)
    grind
   |any=>exact .any _
   |_=>simp[eQ]at h
 | @aU cs xs hl hr ih=>
   intro b h;cases b with
   |aU ys=>
    obtain⟨h1,h2⟩:=K5 (by simpa[eQ]using h);refine .aU (by rw[hl,h1]) (λi c x hc hx=>?_)
    grind
   |any=>exact .any _
   |_=>simp[eQ]at h
 |any y=>
  intro b h;cases b<;>first|exact .any _| (simp[eQ]at h;done)
 |ab t=>
  intro b h;cases b<;>first|exact .any _|exact .ab _| (simp[eQ]at h;done)
 |ptr h0=>
  intro b h;cases b<;>first|exact .any _| (simp[eQ]at h;try obtain⟨rfl,rfl⟩:=h;exact .ptr h0)| (simp at h;done)
 |own h0 h1=>
  intro b h;cases b<;>first|exact .any _| (simp[eQ]at h;subst h;exact .own h0 h1)| (simp[eQ]at h;done)
 |gR h0=>
  intro b h;cases b<;>first|exact .any _| (simp[eQ]at h;obtain⟨rfl,rfl,rfl,rfl⟩:=h;exact .gR h0)| (simp[eQ]at h;done)
 |sl h0 hs=>
  intro b h;cases b<;>first|exact .any _| (simp[eQ]at h;obtain⟨rfl,rfl,rfl,rfl⟩:=h;exact .sl h0 hs)| (simp[eQ]at h;done)
 |fn hx hy h1 h2 i1 i2=>
  intro b h;cases b<;>first|exact .any _| (simp[eQ]at h;obtain⟨rfl,rfl,rfl⟩:=h;exact .fn hx hy h1 h2)| (simp[eQ]at h;done)
 |gB h0 ih=>
  intro b h;cases b<;>first|exact .any _| (simp[eQ]at h;obtain⟨rfl,rfl⟩:=h;exact .gB h0)| (simp[eQ]at h;done)
def sG :AV->Option (FuncId×List AV×List AV)
 |.d (.v (.func (.func f) first captured))=>some (f,first.toList.map λv=>.d (.v v),captured.toList.map λv=>.d (.v v))
 |.fn (.func f) first captured=>some (f,first,captured)
 |.d (.fn (.func f) first captured)=>some (f,first.map .d,captured.map .d)
 |_=>none
theorem zjz {σ:Names}{I:Nat->Prop}{w:World}{x:AV}{v:Value}{f:FuncId}{first captured:List AV}(h:sG x=some (f,first,captured))(hv:RV σ I w x v):
  ∃xs ys:List Value,v=.func (.func f) xs.toArray ys.toArray/\xs.length=first.length/\ys.length=captured.length/\
   (∀(i:Nat) c y,first[i]? =some c->xs[i]? =some y->RV σ I w c y)/\∀(i:Nat) c y,captured[i]? =some c->ys[i]? =some y->RV σ I w c y:=by
 unfold sG at h;split at h
 ·rename_i fst cap;cases h;refine⟨fst.toList,cap.toList,by rw[eF hv],by simp,by simp,λi c y h1 h2=>?_,λi c y h1 h2=>?_⟩<;>
  ·simp at h1 h2;obtain⟨z,hz,rfl⟩:=h1;rw[h2]at hz;cases hz;exact .d (.v _)
 ·cases h;cases hv with
  |fn hx hy h1 h2=>exact⟨_,_,rfl,hx,hy,h1,h2⟩
 ·cases h;cases hv with
  |d hv=>
   cases hv with
   |fn hx hy h1 h2=>
    refine⟨_,_,rfl,by simpa using hx,by simpa using hy,λi c y k1 k2=>?_,λi c y k1 k2=>?_⟩
    ·simp at k1;obtain⟨z,hz,rfl⟩:=k1;exact .d (h1 i z y hz k2)
    ·simp at k1;obtain⟨z,hz,rfl⟩:=k1;exact .d (h2 i z y hz k2)
 ·cases h
def Enters (P:Program)(f:FuncId):Prop:=∀(args:Array Value) (w:World),(callFunc f args).run P w=.ok (.enter f args) w
def dO (bn:List Nat)(nm:Nat)(b:Nat):Nat:=if b<64 then bn.getD b 0 else nm+(b-64)
def kR (bn:List Nat)(nm:Nat)(mr m:List (Nat×aY))(res:AV)(m':List (Nat×aY)):aN:=
 ⟨res.bU (dO bn nm),mr.map λp=>dO bn nm p.1,
   (m.map λp=>(dO bn nm p.1,(bB m' p.1).map (aY.bU (dO bn nm))))++(m'.filter λp=>decide (64<=p.1)).map λp=>(dO bn nm p.1,some (p.2.bU (dO bn nm)))⟩
def jB (n:Nat)(b:Nat):Bool:=decide (b<n)|| (decide (64<=b)&&decide (b<128))
structure y5 (bn:List Nat)(args:List AV)(mr m:List (Nat×aY))(res:AV)(m':List (Nat×aY)):Prop where
 len:bn.length<=64
 nodup:bn.Nodup
 args:fH.iU (λb=>decide (b<bn.length)) args=true
 pre:∀p∈mr++m,p.1<bn.length/\aJ (λb=>decide (b<bn.length)) p.2=true
 keys:((mr++m).map (·.1)).Nodup
 res:fH (jB bn.length) res=true
 post:∀p∈mr++m',jB bn.length p.1=true/\aJ (jB bn.length) p.2=true
 X8:((mr++m').map (·.1)).Nodup
theorem K4 {l:List (Nat×aY)}(hn:(l.map (·.1)).Nodup){b:Nat}{k:aY}(h:(b,k)∈l):bB l b=some k:=by
 induction l with
 |nil=>cases h
 |cons p l ih=>
  obtain⟨c,q⟩:=p;simp only[kE,List.nodup_cons]at hn;rcases kD.1 h with e|h
  ·cases e;simp[bB]
  ·have hne:c≠b:=λe=>hn.1 (e▸fU.2 ⟨_,h,rfl⟩);simp only[bB,aT hne];exact ih hn.2 h
theorem Tu {l:List (Nat×Option aY)}{b:Nat}{k:Option aY}(h:wrote l b=some k):(b,k)∈l:=by
 induction l with
 |nil=>cases h
 |cons p l ih=>
  simp only[wrote]at h
  grind
theorem getD_inj {l:List Nat}(hn:l.Nodup){i j:Nat}(hi:i<l.length)(hj:j<l.length)(h:l.getD i 0=l.getD j 0):i=j:=by
 have h1:l.getD i 0=l[i]:=by grind
 have h2:l.getD j 0=l[j]:=by grind
 rw[h1,h2]at h;exact(List.getElem?_inj hi hn).1 (by rw[bO hi,bO hj,h])
section
variable {bn : List Nat} {nm : Nat} {args : List AV} {mr m m' : List (Nat × aY)} {res : AV} {mem : Mem}
theorem zjE (hk:∀p∈mr++m,mem (dO bn nm p.1)=some (p.2.bU (dO bn nm))){b:Nat}{k:aY}(h:bB (mr++m) b=some k):(kR bn nm mr m res m').mr mem (dO bn nm b)=some (k.bU (dO bn nm)):=by
 have hmem:=nJ h;refine aN.kY (hk _ hmem) ?_;rcases gU.1 hmem with h|h
 ·exact .inl (fU.2 ⟨_,h,rfl⟩)
 ·refine .inr ((M7 _ _).2 ?_);simp only[kR,CJ,List.map_map];exact gU.2 (.inl (fU.2 ⟨_,h,rfl⟩))
theorem zjD (hn:y5 bn args mr m res m')(hk:∀p∈mr++m,mem (dO bn nm p.1)=some (p.2.bU (dO bn nm))){c:Nat}{q:aY}(h:(kR bn nm mr m res m').mw mem c=some q):
  ∃b k,bB (mr++m') b=some k/\c=dO bn nm b/\q=k.bU (dO bn nm)/\((bB (mr++m) b).isSome\/(64<=b/\b<128)):=by
 simp only[aN.mw]at h;split at h
 ·rename_i o ho;subst h;have hm:=Tu ho;rcases gU.1 hm with h|h
  ·obtain⟨p,hp,e⟩:=fU.1 h;simp only[Prod.mk.injEq]at e;obtain⟨rfl,e⟩:=e;obtain⟨k,hk',rfl⟩:=sM.1 e;refine⟨p.1,k,K4 hn.X8 (gU.2 (.inr (nJ hk'))),rfl,rfl,.inl ?_⟩;rw[K4 hn.keys (gU.2 (.inr hp))];rfl
  ·obtain⟨p,hp,e⟩:=fU.1 h;obtain⟨rfl,rfl⟩:=e;obtain⟨hp1,hp2⟩:=mX.1 hp;simp at hp2;have hlt:p.1<128:=by
    have:=(hn.post p (gU.2 (.inr hp1))).1;simp only[jB,sO,dA,bL]at this;have:=hn.len;omega
   exact⟨p.1,p.2,K4 hn.X8 (gU.2 (.inr hp1)),rfl,rfl,.inr ⟨hp2,hlt⟩⟩
 ·split at h
  ·rename_i hc;obtain⟨p,hp,rfl⟩:=fU.1 hc;rw[hk p (gU.2 (.inl hp))]at h;cases h;refine⟨p.1,p.2,K4 hn.X8 (gU.2 (.inl hp)),rfl,rfl,.inl ?_⟩;rw[K4 hn.keys (gU.2 (.inl hp))];rfl
  ·cases h
theorem ZQ {P:Program}{o:Oper}{c:Call}{fo:Operand}{G:(Nat->Prop)->World->Prop}{fin:Value->Ending}(ho:o.op=.call c)(hc:c.callee=.value fo){tm:Nat->AV}{mem:Mem}{nm:Nat}{f:FuncId}{first captured:List AV}
  (hf:sG (ev tm fo)=some (f,first,captured)) (hen:Enters P f) (hct:MN G fin P f args mr m res m') (ha:eQ.leL (first++c.args.toList.map (ev tm)++captured) (args.map (AV.bU (dO bn nm)))) (hn:y5 bn args mr m res m')
  (hk:∀p∈mr++m,mem (dO bn nm p.1)=some (p.2.bU (dO bn nm))) {a:Act} {w:World} {σ:Names} {I:Nat->Prop} (hG:G I w) (h1:∀n,I n->n<w.heap.size)
  (h2:∀t,Operand.tmp t∈o.op.operands->RV σ I w (tm t) (a.tmps.getD t undef)) (h3:RM σ I w ((kR bn nm mr m res m').mr mem)) (h4:∀b,fresh nm b->σ b=none):
  ∃vs:Array Value,(execOp a.eval o).run P w=.ok (.enter f vs) w/\Calls P f vs w λe w'=>∃v σ' I',e=fin v/\eG σ I w ((kR bn nm mr m res m').mr mem) nm σ' I' w' ((kR bn nm mr m res m').mw mem)/\RV σ' I' w' (kR bn nm mr m res m').res v:=by
 obtain⟨xs,ys,e1,lx,ly,rx,ry⟩:=zjz hf (dG (σ:=σ) (I:=I) (w:=w) (a:=a) (x:=fo) λs e=>h2 s (by subst e;simp[ho,Op.operands,Call.operands,hc]));have harg:∀x∈c.args.toList,RV σ I w (ev tm x) (a.eval x):=λx hx=>dG λs e=>h2 s (by subst e;simp[ho,Op.operands,Call.operands];exact .inr (by simpa using hx));have hrun:(execOp a.eval o).run P w=.ok (.enter f (xs++c.args.toList.map a.eval++ys).toArray) w:=by
  have e3:(xs++c.args.toList.map a.eval++ys).toArray=xs.toArray++c.args.map a.eval++ys.toArray:=by
   apply Array.ext';simp
  have e4:=hen (xs.toArray++c.args.map a.eval++ys.toArray) w;rw[<-e3]at e4;rw[<-e4,e3];simp[execOp,ho,resolve,hc,e1,Deferred.ofValue,invoke]
 refine⟨_,hrun,?_⟩
 let σ0:Names:=λb=>if b<bn.length then σ (dO bn nm b)else none
 have hg:∀b,b<bn.length->dO bn nm b=bn.getD b 0:=λb hb=>by simp only[dO];rw[aZ (by have:=hn.len;omega)]
 have hs0:∀b,decide (b<bn.length)=true->∀x,σ (dO bn nm b)=some x->σ0 b=some x:=λb hb x hx=>by simp only[σ0];rw[aZ (by simpa using hb)];exact hx
 obtain⟨hla,hle⟩:=K5 ha;have hlen0:(xs++c.args.toList.map a.eval++ys).length=args.length:=by
  have:(first++c.args.toList.map (ev tm)++captured).length=args.length:=by rw[hla];simp
  rw[<-this];simp[lx,ly]
 have hargs:∀(i:Nat) q v,args[i]? =some q->(xs++c.args.toList.map a.eval++ys)[i]? =some v->RV σ0 I w q v:=by
  intro i q v hq hv;have hlt:i<(first++c.args.toList.map (ev tm)++captured).length:=by rw[hla];simpa using(cE.1 hq).1
  obtain⟨A,hA⟩:∃A,(first++c.args.toList.map (ev tm)++captured)[i]? =some A:=⟨_,bO hlt⟩;have hav:RV σ I w A v:=by
   rw[TU]at hA hv;by_cases hi:i<first.length
   ·rw[qX hi]at hA;rw[qX (by omega)]at hv;exact rx i A v hA hv
   ·rw[tN (by omega)]at hA;rw[tN (by omega),lx]at hv;by_cases hj:i-first.length<c.args.size
    ·rw[qX (by simpa using hj)]at hA;rw[qX (by simpa using hj)]at hv;simp only[jX]at hA hv;cases hx:c.args.toList[i-first.length]? with
     |none=>simp[hx]at hA
     |some x=>
      rw[hx]at hA hv;simp only[tM,pX]at hA hv;subst hA;subst hv;exact harg x (gT hx)
    ·rw[tN (by simpa using hj)]at hA;rw[tN (by simpa using hj)]at hv;simp only[zD]at hA hv;exact ry _ A v hA hv
  have h5:=QM hav (hle i A (q.bU (dO bn nm)) hA (by simp[hq]));exact ML hs0 h5 rfl (xQ hn.args i q hq)
 have hmr:∀b k,bB (mr++m) b=some k->(kR bn nm mr m res m').mr mem (dO bn nm b)=some (k.bU (dO bn nm)):=λb k h=>zjE hk h;have hpre:∀b k,bB (mr++m) b=some k->b<bn.length/\aJ (λb=>decide (b<bn.length)) k=true:=λb k h=>hn.pre _ (nJ h);have hinj:∀b b',b<bn.length->b'<bn.length->dO bn nm b=dO bn nm b'->b=b':=λb b' h h' e=>getD_inj hn.nodup h h' (by rw[<-hg b h,<-hg b' h',e]);have hrm0:RM σ0 I w (bB (mr++m)):=by
  refine⟨λb k hb=>?_,λb b' k k' x x' n hb hb' hx hx' e e'=>?_⟩
  ·obtain⟨x,hx,hrb,hnn⟩:=h3.blk _ _ (hmr b k hb);obtain⟨p1,p2⟩:=hpre b k hb;exact⟨x,hs0 b (by simpa using p1) x hx,JB hs0 hrb p2,hnn⟩
  ·obtain⟨p1,p2⟩:=hpre b k hb;obtain⟨p1',p2'⟩:=hpre b' k' hb';simp only[σ0,aZ p1]at hx;simp only[σ0,aZ p1']at hx';exact hinj b b' p1 p1' (h3.apart _ _ _ _ x x' n (hmr b k hb) (hmr b' k' hb') hx hx' e e')
 have hfree0:∀b,64<=b->σ0 b=none:=λb hb=>by simp only[σ0];rw[aT (by have:=hn.len;omega)]
 have own0:∀n,eZ σ0 (bB (mr++m)) n->eZ σ ((kR bn nm mr m res m').mr mem) n:=by
  rintro n ⟨b,k,x,hb,hx,e⟩;obtain⟨p1,p2⟩:=hpre b k hb;simp only[σ0,aZ p1]at hx;exact⟨_,_,x,hmr b k hb,hx,e⟩
 refine(hct σ0 I w _ hG h1 hlen0 hargs hrm0 hfree0).mono (λe w' he=>?_);obtain⟨v,σ1,I',rfl,hp,hrv⟩:=he
 let σ':Names:=λb=>if nm<=b/\b<nm+64 then σ1 (64+(b-nm))else σ b
 have hnf:∀b x,σ b=some x->¬(nm<=b/\b<nm+64):=λb x hx h=>by rw[h4 b h]at hx;cases hx
 have hs':∀b,jB bn.length b=true->∀x,σ1 b=some x->σ' (dO bn nm b)=some x:=by
  intro b hb x hx;simp only[jB,sO,dA,bL]at hb;rcases hb with hb|⟨hb1,hb2⟩
  ·cases h0:σ0 b with
   |none=>
    have:=hp.new b h0 (by rw[hx];simp);have:=this.1;have:=hn.len;omega
   |some y=>
    have h6:=hp.names b y h0;rw[hx]at h6;cases h6;simp only[σ0,aZ hb]at h0;simp only[σ'];rw[aT (hnf _ _ h0)];exact h0
  ·have e1:dO bn nm b=nm+(b-64):=by simp only[dO];rw[aT (by omega)]
   simp only[σ',e1];rw[aZ (by omega),show 64+(nm+(b-64)-nm)=b by omega];exact hx
 have hpost:∀b k,bB (mr++m') b=some k->jB bn.length b=true/\aJ (jB bn.length) k=true:=λb k h=>hn.post _ (nJ h);have hmw:=λ{c q} (h:(kR bn nm mr m res m').mw mem c=some q)=>zjD (mem:=mem) hn hk h
 refine⟨v,σ',I',rfl,?_,Tg hs' hrv hn.res⟩;refine⟨hp.os,hp.tape,hp.output,hp.size,λb x hx=>?_,λb hb1 hb2=>?_,hp.vH,hp.ib,λn hn'=>?_,λn hn1 hn2=>hp.frame n hn1 (λho=>hn2 (own0 n ho)),⟨λc q hq=>?_,λc c' q q' x x' n hq hq' hx hx' e e'=>?_⟩,λc q hq=>?_,λn ho=>?_⟩
 ·simp only[σ'];rw[aT (hnf _ _ hx)];exact hx
 ·simp only[σ']at hb2;split at hb2
  ·rename_i h;exact h
  ·exact absurd hb1 hb2
 ·rcases hp.kQ n hn' with g|g|g
  ·exact .inl g
  ·exact .inr (.inl g)
  ·exact .inr (.inr (own0 n g))
 ·obtain⟨b,k,hb,rfl,rfl,_⟩:=hmw hq;obtain⟨x,hx,hrb,hnn⟩:=hp.mem.blk b k hb;obtain⟨p1,p2⟩:=hpost b k hb;exact⟨x,hs' b p1 x hx,zlu hs' hrb p2,hnn⟩
 ·obtain⟨b,k,hb,rfl,rfl,_⟩:=hmw hq;obtain⟨b',k',hb',rfl,rfl,_⟩:=hmw hq';obtain⟨y,hy,_,_⟩:=hp.mem.blk b k hb;obtain⟨y',hy',_,_⟩:=hp.mem.blk b' k' hb';have:=hs' b (hpost b k hb).1 y hy;rw[hx]at this;cases this;have:=hs' b' (hpost b' k' hb').1 y' hy';rw[hx']at this;cases this;rw[hp.mem.apart b b' k k' _ _ n hb hb' hy hy' e e']
 ·obtain⟨b,k,hb,rfl,rfl,hor⟩:=hmw hq;rcases hor with h|⟨h,h'⟩
  ·obtain⟨k0,hk0⟩:=y7.1 h;exact .inl (by rw[hmr b k0 hk0];simp)
  ·have e1:dO bn nm b=nm+(b-64):=by simp only[dO];rw[aT (by omega)]
   exact .inr (by rw[e1];exact⟨by omega,by omega⟩)
 ·obtain⟨c,q,x,hq,hx,e⟩:=ho;obtain⟨b,k,hb,rfl,rfl,_⟩:=hmw hq;obtain⟨y,hy,_,_⟩:=hp.mem.blk b k hb;have:=hs' b (hpost b k hb).1 y hy;rw[hx]at this;cases this;rcases hp.mine n ⟨b,k,_,hb,hy,e⟩with g|g
  ·exact .inl (own0 n g)
  ·exact .inr g
theorem Jj {P:Program}{o:Oper}{c:Call}{fo:Operand}(ho:o.op=.call c)(hc:c.callee=.value fo)(tm:Nat->AV)(mem:Mem)(nm:Nat){f:FuncId}{first captured:List AV}
  (hf:sG (ev tm fo)=some (f,first,captured)) (hen:Enters P f) (hct:Ct P f args mr m res m') (ha:eQ.leL (first++c.args.toList.map (ev tm)++captured) (args.map (AV.bU (dO bn nm)))) (hn:y5 bn args mr m res m')
  (hk:∀p∈mr++m,mem (dO bn nm p.1)=some (p.2.bU (dO bn nm))):
  bJ P o tm ((kR bn nm mr m res m').mr mem) nm (kR bn nm mr m res m').res ((kR bn nm mr m res m').mw mem):=by
 intro a w σ I h1 h2 h3 h4 next Q hnx;obtain⟨vs,hrun,hcall⟩:=ZQ ho hc hf hen hct.F ha hn hk trivial h1 h2 h3 h4;simp only[Oper.wp,hrun];refine hcall.mono λe w' ⟨v,σ',I',he,hp,hv⟩=>?_;subst he;exact hnx v σ' I' w' hp hv
end
def DA (P:Program)(x:X):List ResultVar->Option (List AV)
 |[]=>some []
 |.tmp t::r=>(DA P x r).map λl=>cI x.tm t::l
 |.cell a T::r=>match aS P T with
  |some ti=>match BL ti.agg ti.sz (cK x.mm) (cI x.tm a),DA P x r with
   |some e,some l=>some (e.res::l)
   |_,_=>none
  |none=>none
def HF (P:Program)(fn:Func)(x:X):Option AV:=
 match DA P x fn.results.toList with
 |some [r]=>some r
 |some l=>some (.aU l)
 |none=>none
def uF :Nat->List AV->List (Nat×AV)
 |_,[]=>[]
 |i,a::r=>(i,a)::uF (i+1) r
theorem QH :∀(l:List AV) (i t:Nat),cI (uF i l) t=if i<=t then(l[t-i]?).getD .any else .any
 |[],i,t=>by simp[uF,cI]
 |a::r,i,t=>by
  simp only[uF,cI,QH r (i+1) t];by_cases e:i=t
  ·subst e;simp
  ·by_cases h:i<=t
   ·have:t-i=(t-(i+1))+1:=by omega
    simp[e,h,show i+1<=t by omega,this]
   ·simp[e,h,show¬i+1<=t by omega]
theorem RM.sub {σ:Names}{I:Nat->Prop}{w:World}{m m':Mem}(hm:RM σ I w m)(h:∀b k,m' b=some k->m b=some k):RM σ I w m':=
 ⟨λb k hb=>hm.blk b k (h b k hb),λb b' k k' x x' n h1 h2 h3 h4 h5 h6=>hm.apart b b' k k' x x' n (h b k h1) (h b' k' h2) h3 h4 h5 h6⟩
theorem aN.XH {e:aN}{m:Mem}:∀b k,e.mr m b=some k->m b=some k:=by
 intro b k hb;simp only[aN.mr]at hb;split at hb
 ·exact hb
 ·cases hb
def C9 (tmps:Array Value):ResultVar->Sem Value
 |.tmp t=>pure (tmps.getD t undef)
 |.cell a t=>do loadVar t (<-asAddr (tmps.getD a undef))
theorem OS {E:Ctx}{x:X}{σ:Names}{I:Nat->Prop}{a:Act}{w:World}(hr:pF E x.den σ I a w):∀(rs:List ResultVar) (l:List AV),DA E.P x rs=some l->
  ∃vs:List Value,(rs.mapM (C9 a.tmps)).run E.P w=.ok vs w/\vs.length=l.length/\∀(i:Nat) c v,l[i]? =some c->vs[i]? =some v->RV σ I w c v
 |[],l,h=>by cases h;exact⟨[],by rw[List.mapM_nil];rfl,rfl,λi c v h=>by simp at h⟩
 |.tmp t::rs,l,h=>by
  simp only[DA]at h;cases hl:DA E.P x rs with
  |none=>simp[hl]at h
  |some l'=>
   simp[hl]at h;subst h;obtain⟨vs,h1,h2,h3⟩:=OS hr rs l' hl;refine⟨a.tmps.getD t undef::vs,?_,by simp[h2],λi c v hc hv=>?_⟩
   ·rw[List.mapM_cons];simp only[C9,dS,oD,fB,h1]
   ·cases i with
    |zero=>
     rw[GG]at hc hv;cases hc;cases hv;exact hr.tm t
    |succ i=>exact h3 i c v (by simpa using hc) (by simpa using hv)
 |.cell ad T::rs,l,h=>by
  simp only[DA]at h;split at h
  ·rename_i ti hT;split at h
   ·rename_i e l' he hl;cases h;obtain⟨vs,h1,h2,h3⟩:=OS hr rs l' hl;obtain⟨q,u,e1,e2,e3⟩:=Mq hT he (hr.tm ad) (hr.mm.sub aN.XH);refine⟨u::vs,?_,by simp[h2],λi c v hc hv=>?_⟩
    ·rw[List.mapM_cons];simp only[C9,dS,e1,asAddr,oD,fB,e2,h1]
    ·cases i with
     |zero=>
      rw[GG]at hc hv;cases hc;cases hv;exact e3
     |succ i=>exact h3 i c v (by simpa using hc) (by simpa using hv)
   ·cases h
  ·cases h
theorem VR {P:Program}{fn:Func}{tmps:Array Value}{w:World}{vs:List Value}(h:(fn.results.toList.mapM (C9 tmps)).run P w=.ok vs w):
  (results fn tmps).run P w=.ok (if h:vs.toArray.size=1 then vs.toArray[0]else .tuple vs.toArray) w:=by
 have e:results fn tmps=(do
   let us<-fn.results.mapM (C9 tmps)
   pure (if h:us.size=1 then us[0]else .tuple us)):=by
  congr 1
 have e2:fn.results.mapM (C9 tmps)=List.toArray<$>fn.results.toList.mapM (C9 tmps):=by
  rw[<-List.mapM_toArray]
 simp_all
theorem zbE {E:Ctx}{x:X}{σ:Names}{I:Nat->Prop}{a:Act}{w:World}(hr:pF E x.den σ I a w){fn:Func}{r:AV}(h:HF E.P fn x=some r):
  ∃v,(results fn a.tmps).run E.P w=.ok v w/\RV σ I w r v:=by
 unfold HF at h;split at h
 ·rename_i r' hl;cases h;obtain⟨vs,h1,h2,h3⟩:=OS hr _ _ hl
  match vs,h2,h1,h3 with
  |[v],_,h1,h3=>exact⟨v,by rw[VR h1];rfl,h3 0 r v rfl rfl⟩
 ·rename_i l hne hl;cases h;obtain⟨vs,h1,h2,h3⟩:=OS hr _ _ hl;refine⟨.tuple vs.toArray,?_,.aU h2 h3⟩;rw[VR h1,dif_neg];intro h1';simp at h1';rw[h1']at h2
  match l,h2 with
  |[r'],_=>exact hne r' rfl
 ·cases h
def lK :List (Nat×Nat)->Nat->Option Nat
 |[],_=>none
 | (a,c)::r,b=>if a=b then some c else lK r b
def gf (g:List (Nat×Nat))(b:Nat):Nat:=if b<64 then b else(lK g b).getD b
def aI (m:List (Nat×aY))(g:List (Nat×Nat))(b:Nat):Bool:=(decide (b<64)&&(bB m b).isSome)|| (decide (64<=b)&&(lK g b).isSome)
structure y4 (mm:Nat->Option aY)(r:AV)(m:List (Nat×aY))(res:AV)(m':List (Nat×aY))(g:List (Nat×Nat)):Prop where
 zhx:eQ (fG (λb=>(m'.map λp=>gf g p.1).contains b) mm 8 r) (res.bU (gf g))
 post:∀p∈m',mm (gf g p.1)=some (p.2.bU (gf g))
 nd:(m'.map λp=>gf g p.1).Nodup
 nd':(m'.map (·.1)).Nodup
 wP:∀p∈m',aI m g p.1=true/\aJ (aI m g) p.2=true
 zeI:fH (aI m g) res=true
 g:∀q∈g,64<=q.1/\q.1<128
def Tf (mm:Nat->Option aY)(m:List (Nat×aY))(res:AV)(m':List (Nat×aY)):Option AV->Prop
 |some r=>∃g,y4 mm r m res m' g
 |none=>False
def wH (P:Program)(fn:Func)(m:List (Nat×aY))(res:AV)(m':List (Nat×aY)):Exit->X->Prop:=λe x=>(e=.normal\/e=.ret)/\Tf (cK x.mm) m res m' (HF P fn x)
theorem FB (l:List (Nat×aY)):cK (l.map λp=>(p.1,some p.2))=bB l:=by
 induction l with
 |nil=>rfl
 |cons p l ih=>obtain⟨c,k⟩:=p;simp only[kE,cK,bB,ih]
theorem W5 {α β:Type}{f:α->β}:∀{l:List α},(l.map f).Nodup->∀{x y:α},x∈l->y∈l->f x=f y->x=y
 |[],_,_,_,h,_,_=>by cases h
 |a::l,hn,x,y,hx,hy,e=>by
  simp only[kE,List.nodup_cons]at hn;rcases kD.1 hx with h1|h1<;>rcases kD.1 hy with h2|h2
  ·rw[h1,h2]
  ·subst h1;exact absurd (fU.2 ⟨y,h2,e.symm⟩) hn.1
  ·subst h2;exact absurd (fU.2 ⟨x,h1,e⟩) hn.1
  ·exact W5 hn.2 h1 h2 e
theorem Gd {E:Ctx}{σ:Names}{I:Nat->Prop}{w:World}{vs:List Value}{args:List AV}{m0:List (Nat×aY)}(hw0:E.w0=w)(hbor:E.uJ=eZ σ (bB m0))(hI0:E.I0=I)(hs0:E.s0=σ)(hn:args.length<=E.nt)
  (hib:∀n,I n->n<w.heap.size) (hl:vs.length=args.length) (hv:∀(i:Nat) c x,args[i]? =some c->vs[i]? =some x->RV σ I w c x) (hrm:RM σ I w (bB m0)) (hfree:∀b,64<=b->σ b=none):
  Rel E (X.den ⟨uF 0 args,m0.map (λp=>(p.1,some p.2)),64⟩) {tmps:=vs.toArray++Array.replicate (E.nt-vs.toArray.size) undef,defers:=[]} w:=by
 subst hw0 hI0 hs0;have hlk:cK (m0.map λp=>(p.1,some p.2))=bB m0:=FB _;refine⟨E.s0,E.I0,?_,rfl,λt=>?_,?_,λb hb=>hfree b hb,hib,λ_ h=>h,λn h=>.inl h,λn h=>?_,rfl,rfl,⟨rfl,bY _⟩,bY _,λ_ _ _=>rfl,λ_ _ h=>h,hfree⟩
 ·simp_all
 ·simp only[X.den,QH,fK,MQ];cases ha:args[t]? with
  |none=>exact .any _
  |some c=>
   have hlt:t<vs.length:=by grind
   have e1:(vs.toArray++Array.replicate (E.nt-vs.toArray.size) undef).getD t undef=vs[t]:=by
    simp[Array.getElem?_append,hlt]
   rw[e1];exact hv t c _ ha (bO hlt)
 ·show RM E.s0 E.I0 E.w0 (cK _);rw[hlk];exact hrm
 ·have h':eZ E.s0 (cK (m0.map λp=>(p.1,some p.2))) n:=h;rw[hlk]at h';rw[hbor];exact .inl h'
theorem Hp {E:Ctx}{w w':World}{σ σf:Names}{I If:Nat->Prop}{a:Act}{x:X}{m0 m1:List (Nat×aY)}{r res:AV}{v:Value}{g:List (Nat×Nat)}(hw0:E.w0=w)(hbor:E.uJ=eZ σ (bB m0))(hI0:E.I0=I)(hs0:E.s0=σ)
  (hrm:RM σ I w (bB m0)) (hfree:∀b,64<=b->σ b=none) (hr:pF E x.den σf If a w') (hfin:y4 (cK x.mm) r m0 res m1 g) (h2:RV σf If w' r v):
  ∃σ' I',eG σ I w (bB m0) 64 σ' I' w' (bB m1)/\RV σ' I' w' res v:=by
 subst hw0 hI0 hs0
 let kp:Nat->Bool:=λb=>(m1.map λp=>gf g p.1).contains b
 let I':=given σf If (cK x.mm) kp
 let σ':Names:=λb=>if b<64 then E.s0 b else match lK g b with|some c=>σf c|none=>none
 have hmx:RM σf If w' (cK x.mm):=hr.mm;have hs:∀b,aI m0 g b=true->∀y,σf (gf g b)=some y->σ' b=some y:=by
  intro b hb y hy;simp only[aI,sO,bL,dA]at hb;rcases hb with⟨hb1,hb2⟩|⟨hb1,hb2⟩
  ·obtain⟨k,hk⟩:=y7.1 hb2;obtain⟨z,hz,_⟩:=hrm.blk b k hk;have:=hr.keep b z hz;simp only[gf]at hy
   grind
  ·obtain⟨c,hc⟩:=y7.1 hb2;have hnl:¬b<64:=by omega
   simp only[gf,aT hnl,hc]at hy;simp only[σ',aT hnl,hc];exact hy
 have hs':∀b,aI m0 g b=true->∀y,σ' b=some y->σf (gf g b)=some y:=by
  intro b hb y hy;simp only[aI,sO,bL,dA]at hb;rcases hb with⟨hb1,hb2⟩|⟨hb1,hb2⟩
  ·simp only[σ',aZ hb1]at hy;simp only[gf,aZ hb1];exact hr.keep b y hy
  ·have hnl:¬b<64:=by omega
   obtain⟨c,hc⟩:=y7.1 hb2;simp only[σ',aT hnl,hc]at hy;simp only[gf,aT hnl,hc];exact hy
 have hrv:RV σ' I' w' res v:=ML hs (QM (KQ (kp:=kp) hmx 8 h2) hfin.zhx) rfl hfin.zeI;have hblk:∀b k,bB m1 b=some k->∃y,σ' b=some y/\σf (gf g b)=some y/\cK x.mm (gf g b)=some (k.bU (gf g))/\RB σ' I' w' k y/\∀n,AI.hb y=some n->n<w'.heap.size/\¬I' n:=by
  intro b k hb';have hmem:=nJ hb';have hpo:=hfin.post _ hmem;obtain⟨d1,d2⟩:=hfin.wP _ hmem;obtain⟨y,hy,hrb,hnn⟩:=hmx.blk _ _ hpo;have hrb':RB σf I' w' (k.bU (gf g)) y:=hrb.mono (λ_ _=>rfl) (λn h=>.inl h) (λ_ _ h=>h) (λ_ _=>rfl);refine⟨y,hs b d1 y hy,hy,hpo,JB hs hrb' d2,λn hn'=>⟨(hnn n hn').1,?_⟩⟩;rintro(h|⟨b0,hk0,c,q,z,e,q1,q2,q3⟩)
  ·exact(hnn n hn').2 h
  ·cases e;have:=hmx.apart _ _ _ _ _ _ n hpo q1 hy q2 hn' q3;subst this;have:kp (gf g b)=true:=by
    simp only[kp,TT];exact fU.2 ⟨_,hmem,rfl⟩
   rw[this]at hk0;cases hk0
 refine⟨σ',I',?_,hrv⟩;refine⟨hr.os,hr.tape,hr.output,hr.hs,λb y hy=>?_,λb hb1 hb2=>?_,λn hn'=>.inl (hr.i0 n hn'),λn hn'=>?_,λn hn'=>?_,λn hn1 hn2=>hr.frame n hn1 (by rw[hbor];exact hn2),⟨λb k hb'=>?_,λb b' k k' y y' n q1 q2 q3 q4 q5 q6=>?_⟩,λb k hb'=>?_,λn ho=>?_⟩
 ·have:b<64:=by
   rcases y9 b 64 with h|h
   ·exact h
   ·rw[hfree b h]at hy;cases hy
  simp only[σ',aZ this];exact hy
 ·by_cases hlt:b<64
  ·simp only[σ',aZ hlt]at hb2;exact absurd hb1 hb2
  ·simp only[σ',aT hlt]at hb2;cases hc:lK g b with
   |none=>rw[hc]at hb2;exact absurd rfl hb2
   |some c=>
    have:∀{g:List (Nat×Nat)},lK g b=some c->(b,c)∈g:=by
     intro g;induction g with
     |nil=>intro h;cases h
     |cons q g ih=>
      obtain⟨a1,a2⟩:=q;intro h;simp only[lK]at h;split at h
      ·rename_i e;cases h;subst e;simp
      ·simp[ih h]
    exact hfin.g _ (this hc)
 ·rcases hn' with h|⟨b0,hk0,c,q,z,e,q1,q2,q3⟩
  ·exact hr.ib n h
  ·obtain⟨z',hz',_,hnn⟩:=hmx.blk _ _ q1;rw[q2]at hz';cases hz';exact(hnn n q3).1
 ·rcases hn' with h|⟨b0,hk0,c,q,z,e,q1,q2,q3⟩
  ·rcases hr.kQ n h with g|g|g
   ·exact .inl g
   ·exact .inr (.inr (by rw[hbor]at g;exact g))
   ·exact .inr (.inl g)
  ·rcases hr.mine n ⟨c,q,z,q1,q2,q3⟩with g|g
   ·exact .inr (.inr (by rw[hbor]at g;exact g))
   ·exact .inr (.inl g)
 ·obtain⟨y,p1,p2,p3,p4,p5⟩:=hblk b k hb';exact⟨y,p1,p4,p5⟩
 ·obtain⟨u,p1,p2,p3,p4,p5⟩:=hblk b k q1;obtain⟨u',p1',p2',p3',p4',p5'⟩:=hblk b' k' q2;rw[q3]at p1;cases p1;rw[q4]at p1';cases p1';have:=hmx.apart _ _ _ _ _ _ n p3 p3' p2 p2' q5 q6;have:=W5 hfin.nd (nJ q1) (nJ q2) this;exact jW Prod.fst this
 ·have hd:=(hfin.wP _ (nJ hb')).1;simp only[aI,sO,bL,dA]at hd;rcases hd with⟨_,hd⟩|⟨hd1,hd2⟩
  ·left;intro h;rw[h]at hd;cases hd
  ·right;obtain⟨c,hc⟩:=y7.1 hd2;have:∀{g:List (Nat×Nat)},lK g b=some c->(b,c)∈g:=by
    intro g;induction g with
    |nil=>intro h;cases h
    |cons q g ih=>
     obtain⟨a1,a2⟩:=q;intro h;simp only[lK]at h;split at h
     ·rename_i e;cases h;subst e;simp
     ·simp[ih h]
   exact hfin.g _ (this hc)
 ·obtain⟨b,k,y,q1,q2,q3⟩:=ho;obtain⟨u,p1,p2,p3,p4,p5⟩:=hblk b k q1;rw[q2]at p1;cases p1;have h9:=hr.mine n ⟨_,_,y,p3,p2,q3⟩;rw[hbor]at h9;exact h9
def Ad (G:(Nat->Prop)->World->Prop):Prop:=∀(I I':Nat->Prop) (w w':World),G I w->(∀n,I n->w'.heap[n]? =w.heap[n]?)->(∀n,I n->I' n)->G I' w'
def eL (G:(Nat->Prop)->World->Prop)(P:Program)(f:FuncId)(args:List AV)(mr m:List (Nat×aY))(res:AV)(m':List (Nat×aY)):Prop:=
 MN G .returned P f args mr m res m'
theorem Ct.GL {G:(Nat->Prop)->World->Prop}{P:Program}{f:FuncId}{args:List AV}{mr m m':List (Nat×aY)}{res:AV}(h:Ct P f args mr m res m'):eL G P f args mr m res m':=
 λσ I w vs _ h1 h2 h3 h4 h5=>h σ I w vs h1 h2 h3 h4 h5
abbrev JG (G:(Nat->Prop)->World->Prop):Names->(Nat->Prop)->World->Prop:=λ_ I w=>G I w
theorem eL.DF {G:(Nat->Prop)->World->Prop}(hGk:Ad G){P:Program}{f:FuncId}{fn:Func}{c:Code}{args:List AV}{mr m:List (Nat×aY)}{res:AV}{m':List (Nat×aY)}(hf:P.funcs[f]? =some fn)(hb:fn.body=some c)(hm:P.follows .mixedOrders=true)(hn:args.length<=fn.ntmps)
  (h:CI none 0 (JG G) P fn.ntmps (wH P fn (mr++m) res (mr++m')) [.code c] ⟨uF 0 args,(mr++m).map (λp=>(p.1,some p.2)),64⟩):eL G P f args mr m res m':=by
 intro σ I w vs hG hib hl hv hrm hfree;refine(EG (n:=0)).1 ?_;refine callsIn_of_wp (F:=FW none) hf hb trivial ?_ rfl
 let E:Ctx:={P:=P,w0:=w,uJ:=eZ σ (bB (mr++m)),I0:=I,nt:=fn.ntmps,s0:=σ}
 have hJ:∀s σ' I' a w',pF E s σ' I' a w'->JG G σ' I' w':=by
  intro s σ' I' a w' hr;refine hGk I I' w w' hG (λn hn=>hr.frame n (hib n hn) ?_) (λn hn=>hr.i0 n hn);rintro⟨b,k,x,h1,h2,h3⟩;obtain⟨x',h4,_,h5⟩:=hrm.blk b k h1;simp_all
 refine AP ((AO hm h E rfl rfl hJ).1 rfl _ w (Gd (E:=E) rfl rfl rfl rfl hn hib hl hv hrm hfree)) (λe a w' hq=>?_);obtain⟨x,⟨σf,If,hr⟩,he,hret⟩:tE E (wH P fn (mr++m) res (mr++m')) e a w':=by
  cases e<;>simpa[eE]using hq
 obtain⟨r,ho,g,hfin⟩:∃r,HF P fn x=some r/\∃g,y4 (cK x.mm) r (mr++m) res (mr++m') g:=by
  cases ho:HF P fn x with
  |none=>rw[ho]at hret;exact hret.elim
  |some r=>rw[ho]at hret;exact⟨r,rfl,hret⟩
 obtain⟨v,h1,h2⟩:=zbE hr ho;obtain⟨σ',I',hp,hrv⟩:=Hp (E:=E) rfl rfl rfl rfl hrm hfree hr hfin h2;rcases he with rfl|rfl
 ·exact⟨hr.wQ,v,h1,v,σ',I',rfl,hp,hrv⟩
 ·exact⟨hr.wQ,v,h1,v,σ',I',rfl,hp,hrv⟩
abbrev J0 :Names->(Nat->Prop)->World->Prop:=λ_ _ _=>True
theorem Ct.DF {P:Program}{f:FuncId}{fn:Func}{c:Code}{args:List AV}{mr m:List (Nat×aY)}{res:AV}{m':List (Nat×aY)}(hf:P.funcs[f]? =some fn)(hb:fn.body=some c)(hm:P.follows .mixedOrders=true)(hn:args.length<=fn.ntmps)
  (h:CI none 0 J0 P fn.ntmps (wH P fn (mr++m) res (mr++m')) [.code c] ⟨uF 0 args,(mr++m).map (λp=>(p.1,some p.2)),64⟩):Ct P f args mr m res m':=
 λσ I w vs=>eL.DF (G:=λ_ _=>True) (λ_ _ _ _ _ _ _=>trivial) hf hb hm hn h σ I w vs trivial
end Go.AI
