/-
  A FRAMEWORK OF MY OWN (2): the other operations, an evaluator over abstract states, contracts, calls.
-/
import Derived.Test.YtjoaclgkjhncjaaGreatDoorFa
set_option linter.unusedSimpArgs false
set_option linter.unusedVariables false
namespace Go.AI
open Classical
def qcr :TypeDesc→Bool
 |.int _=>true
 |.bool=>true
 |.string=>true
 |_=>false
def keyT (P:Program)(T:TypeId):Bool:=
 match P.underlying T with
 |some (.struct fs)=>fs.toList.all fun f=>match P.underlying f.type with
  |some d=>qcr d&&decide (f.offset<szOf P T)
  |none=>false
 |some d=>qcr d
 |none=>false
theorem zv0 {P:Program}{w:World}{t:TypeId}{d:TypeDesc}(h:P.underlying t=some d)(hb:qcr d=true){xs:List Value}{off:Nat}(hs:off<xs.length):(part t xs.toArray off).run P w=.ok xs[off] w:=by
 have hg:aggD d=false:=by cases d<;>first|rfl|cases hb
 simp[part,zdy h,hg,hs]
theorem zv1 {P:Program}{w:World}{T:TypeId}(h:keyT P T=true){ka:Bool}{xs:List Value}(hl:xs.length=szOf P T)(ha:∀d,P.underlying T=some d→ka=aggD d)(hx:ka=false→∃x,xs=[x])(ho:∀x∈xs,x.oneCell'=true)(empty:Bool):
  (Instr.checkKey empty 10000 T (mk ka xs)).run P w=.ok () w:=by
 obtain⟨m,hm⟩:∃m,10000=m+1+1:=⟨9998,rfl⟩;rw[hm];clear hm;unfold keyT at h;have basic:∀(n:Nat) (d:TypeDesc) (t:TypeId) (v:Value),P.underlying t=some d→qcr d=true→(Instr.checkKey empty (n+1) t v).run P w=.ok () w:=by
  intro n d t v hu hb;simp only[Instr.checkKey,Sem.run_bind,run_underlying hu,Result.andThen_ok];cases d<;>first| (cases hb;done)|rfl
 split at h
 ·rename_i fs hu;have:=ha _ hu;simp only[aggD]at this;subst this;simp only[mk,if_true];rw[Instr.checkKey];simp only[Sem.run_bind,run_underlying hu,Result.andThen_ok];rw[←Array.forIn_toList];have key:∀l:List Field,(∀f∈l,f∈fs.toList)→∀b:PUnit,(forIn (m:=Sem) l b fun f _=>do
    if f.name≠ "_" then Instr.checkKey empty (m+1) f.type (←part f.type xs.toArray f.offset)
    pure (ForInStep.yield PUnit.unit)).run P w=.ok PUnit.unit w:=by
   intro l;induction l with
   |nil=>intro _ b;simp
   |cons f l ih=>
    intro hm b;have hf:=List.all_eq_true.1 h f (hm f (by simp));split at hf
    ·rename_i d hd;simp only[Bool.and_eq_true,decide_eq_true_eq]at hf;have e1:=zv0 (w:=w) hd hf.1 (xs:=xs) (off:=f.offset) (by rw[hl];exact hf.2);have e2:=basic m d f.type (xs[f.offset]'(by rw[hl];exact hf.2)) hd hf.1;simp only[List.forIn_cons,Sem.run_bind];by_cases hn:f.name≠ "_"
     ·simp only[hn,ne_eq,not_false_eq_true,if_true,Sem.run_bind,e1,Result.andThen_ok,e2,Sem.run_pure];exact ih (fun g hg=>hm g (by simp[hg])) _
     ·simp only[hn,if_false,Sem.run_pure,Result.andThen_ok];exact ih (fun g hg=>hm g (by simp[hg])) _
    ·cases hf
  have:=key fs.toList (fun f hf=>hf) PUnit.unit;simp only[Array.forIn_toList]at this⊢;simp at this⊢;rw[this];rfl
 ·rename_i d hns hu;exact basic (m+1) d T _ hu h
 ·cases h
theorem qcf :∀{ks:List CK} {xs ys:List Value},zc3 ks xs=true→zc3 ks ys=true→eqLV ks xs ys=some (decide (xs=ys))
 |[],[],[],_,_=>rfl
 |k::ks,x::xs,y::ys,h,g=>by
  simp only[zc3,Bool.and_eq_true]at h g;have ih:=qcf h.2 g.2;have hc:zga k x y=some (decide (x=y)):=by
   have h1:=h.1;have g1:=g.1;cases k<;>cases x<;>first| (simp[CK.fits]at h1;done)|skip
   ·rename_i kx nx;cases y<;>first| (simp[CK.fits]at g1;done)|skip
    rename_i ky ny;cases kx<;>first| (simp[CK.fits]at h1;done)|skip
    cases ky<;>first| (simp[CK.fits]at g1;done)|skip
    simp[zga]
   ·cases y<;>first| (simp[CK.fits]at g1;done)|skip
    simp[zga]
   ·cases y<;>first| (simp[CK.fits]at g1;done)|skip
    simp[zga]
  simp only[eqLV,hc,ih,List.cons.injEq];by_cases e1:x=y<;>by_cases e2:xs=ys<;>simp[e1,e2]
 |[],[],_::_,_,h=>by cases h
 |[],_::_,_,h,_=>by cases h
 |_::_,[],_,h,_=>by cases h
 |_::_,_::_,[],_,h=>by cases h
theorem zq4 {P:Program}{w:World}{T:TypeId}{d:TypeDesc}{ks:List CK}(hf:zd3 P 8 T=some ks)(hu:P.underlying T=some d){xs ys:List Value}(hx:zc3 ks xs=true)(hy:zc3 ks ys=true):
  (Op.equal T (mk (aggD d) xs) (mk (aggD d) ys)).run P w=.ok (decide (xs=ys)) w:=
 zia 8 10000 T ks d hf (by omega) hu xs ys _ (qcf hx hy) w
noncomputable def seek (kc:List Value)(keys:Nat→List Value):Nat→Nat→Option Nat
 |0,_=>none
 |n+1,i=>if kc=keys i then some i else seek kc keys n (i+1)
theorem zg7 {kc:List Value}{keys:Nat→List Value}:∀{n i j:Nat},seek kc keys n i=some j→i≤j∧j<i+n∧kc=keys j
 |0,_,_,h=>by cases h
 |n+1,i,j,h=>by
  unfold seek at h;split at h
  ·rename_i e;cases h;exact⟨Nat.le_refl _,by omega,e⟩
  ·have:=zg7 h;exact⟨by omega,by omega,this.2.2⟩
theorem zpo {kc:List Value}{keys:Nat→List Value}:∀{n i:Nat},seek kc keys n i=none→∀j,i≤j→j<i+n→kc≠keys j
 |0,_,_,j,h1,h2=>by omega
 |n+1,i,h,j,h1,h2=>by
  unfold seek at h;split at h
  ·cases h
  ·rename_i e;by_cases hj:j=i
   ·subst hj;exact e
   ·exact zpo h j (by omega) (by omega)
theorem zqn {kind:TypeDesc}{k:CK}(hk:(∃i,kind=.int i∧k=.int)∨(kind=.bool∧k=.bool)∨(kind=.string∧k=.str)){x:Value}(hx:k.fits x=true){keys:Nat→List Value}:∀(es:List MapEntry) (i:Nat),
  (∀(j:Nat) e,es[j]? =some e→∃y,keys (i+j)=[y]∧e.key=y∧k.fits y=true)→Instr.findNow kind x es i=some ((seek [x] keys es.length i).map fun j=>(j,(es.getD (j-i) default).val))
 |[],i,_=>rfl
 |e::es,i,h=>by
  obtain⟨y,h1,h2,h3⟩:=h 0 e rfl;rw[Nat.add_zero]at h1;have hs:Instr.sameNow kind x y=some (decide (x=y)):=by
   rcases hk with⟨ik,rfl,rfl⟩|⟨rfl,rfl⟩|⟨rfl,rfl⟩<;>cases x<;>first| (simp[CK.fits]at hx;done)|skip
   ·rename_i kx nx;cases y<;>first| (simp[CK.fits]at h3;done)|skip
    rename_i ky ny;cases kx<;>first| (simp[CK.fits]at hx;done)|skip
    cases ky<;>first| (simp[CK.fits]at h3;done)|skip
    simp[Instr.sameNow];by_cases e:nx=ny<;>simp[e]
   ·rename_i a;cases y<;>first| (simp[CK.fits]at h3;done)|skip
    rename_i b;simp[Instr.sameNow];cases a<;>cases b<;>rfl
   ·rename_i a;cases y<;>first| (simp[CK.fits]at h3;done)|skip
    rename_i b;have hb:=(beq_toListBytes a b).trans (zut a b);have:(Value.string a=Value.string b)=(a=b):=by simp
    simp only[Instr.sameNow,hb,Option.some.injEq,this]
  have ih:=zqn hk hx (keys:=keys) es (i+1) (fun j e' hj=>by
   obtain⟨y',a,b,c⟩:=h (j+1) e' (by simpa using hj);exact⟨y',by rw[show i+1+j=i+(j+1) by omega];exact a,b,c⟩)
  unfold Instr.findNow;rw[h2,hs];simp only[List.length_cons,seek,h1,List.cons.injEq,and_true];by_cases e':x=y
  ·simp[e']
  ·simp only[e',decide_false,if_false,ih];congr 1
   cases hsk:seek [x] keys es.length (i+1)with
   |none=>rfl
   |some j=>
    have:=(zg7 hsk).1;simp only[Option.map_some,Option.some.injEq,Prod.mk.injEq,true_and];rw[show j-i=(j-(i+1))+1 by omega];simp
theorem zi3 {P:Program}{w:World}{T:TypeId}{d:TypeDesc}{ks:List CK}(hf:zd3 P 8 T=some ks)(hu:P.underlying T=some d){kc:List Value}(hx:zc3 ks kc=true){keys:Nat→List Value}:∀(es:List MapEntry) (i:Nat),
  (∀(j:Nat) e,es[j]? =some e→e.key=mk (aggD d) (keys (i+j))∧zc3 ks (keys (i+j))=true)→
  (Instr.findAsking T (mk (aggD d) kc) es i).run P w=.ok ((seek kc keys es.length i).map fun j=>(j,(es.getD (j-i) default).val)) w
 |[],i,_=>rfl
 |e::es,i,h=>by
  obtain⟨h1,h2⟩:=h 0 e rfl;rw[Nat.add_zero]at h1 h2;have ih:=zi3 (w:=w) hf hu hx (keys:=keys) es (i+1) (fun j e' hj=>by
   have:=h (j+1) e' (by simpa using hj);rw[show i+1+j=i+(j+1) by omega];exact this)
  unfold Instr.findAsking;simp only[Sem.run_bind,h1,zq4 hf hu hx h2,Result.andThen_ok,List.length_cons,seek];by_cases e':kc=keys i
  ·simp[e']
  ·simp only[e',decide_false,Bool.false_eq_true,if_false,ih];congr 1
   cases hsk:seek kc keys es.length (i+1)with
   |none=>rfl
   |some j=>
    have:=(zg7 hsk).1;simp only[Option.map_some,Option.some.injEq,Prod.mk.injEq,true_and];rw[show j-i=(j-(i+1))+1 by omega];simp
def zxh (P:Program)(T:TypeId)(ka:Bool)(ks:List CK):Prop:=
 zd3 P 8 T=some ks∧keyT P T=true∧ks.length=szOf P T∧(match P.underlying T with
  |some d=>aggD d=ka∧(ka=false→(match d,ks with|.int _,[.int]=>true|.bool,[.bool]=>true|.string,[.str]=>true|_,_=>false)=true)
  |none=>False)
theorem zhu {P:Program}{w:World}{T:TypeId}{ka:Bool}{ks:List CK}(hK:zxh P T ka ks){kc:List Value}(hx:zc3 ks kc=true){keys:Nat→List Value}{es:Array MapEntry}
  (h:∀(j:Nat) e,es[j]? =some e→e.key=mk ka (keys j)∧zc3 ks (keys j)=true):
  (Instr.findKey T (mk ka kc) es.toList).run P w=.ok ((seek kc keys es.size 0).map fun j=>(j,(es.getD j default).val)) w:=by
 obtain⟨hf,hkt,hl,hd⟩:=hK;split at hd
 case h_2=>exact hd.elim
 rename_i d hu;obtain⟨hg,hone⟩:=hd;have hask:=zi3 (w:=w) hf hu hx (keys:=keys) es.toList 0 (fun j e hj=>by rw[Nat.zero_add,hg];exact h j e (by simpa using hj));simp only[hg,Array.length_toList,Nat.sub_zero]at hask;have hask':(Instr.findAsking T (mk ka kc) es.toList).run P w=.ok ((seek kc keys es.size 0).map fun j=>(j,(es.getD j default).val)) w:=by
  rw[hask];congr 2
  funext j
  simp[List.getD,Array.getD];split<;>simp[*]
 unfold Instr.findKey;simp only[Sem.run_bind,run_underlying hu,Result.andThen_ok];cases ka with
 |true=>
  split
  ·rename_i r hr;cases he:es.toList with
   |nil=>
    have hsz:es.size=0:=by rw[←Array.length_toList,he];rfl
    rw[he]at hr;simp only[Instr.findNow,Option.some.injEq]at hr;subst hr;simp[hsz,seek]
   |cons e l=>
    rw[he]at hr;unfold Instr.findNow at hr;have:Instr.sameNow d (mk true kc) e.key=none:=by
     cases d<;>first| (simp[aggD]at hg;done)|rfl
    rw[this]at hr;cases hr
  ·exact hask'
 |false=>
  have hone:=hone rfl;obtain⟨k,hks,hkk⟩:∃k,ks=[k]∧((∃i,d=.int i∧k=.int)∨(d=.bool∧k=.bool)∨(d=.string∧k=.str)):=by
   split at hone
   ·exact⟨_,rfl,.inl ⟨_,rfl,rfl⟩⟩
   ·exact⟨_,rfl,.inr (.inl ⟨rfl,rfl⟩)⟩
   ·exact⟨_,rfl,.inr (.inr ⟨rfl,rfl⟩)⟩
   ·cases hone
  subst hks;have one:∀ys:List Value,zc3 [k] ys=true→∃y,ys=[y]∧k.fits y=true:=by
   intro ys hy
   match ys,hy with
   |[y],hy=>exact⟨y,rfl,by simpa[zc3]using hy⟩
   |[],hy=>cases hy
   |_::_::_,hy=>simp[zc3]at hy
  obtain⟨x,rfl,hx1⟩:=one kc hx;have hn:=zqn hkk hx1 (keys:=keys) es.toList 0 (fun j e hj=>by
   obtain⟨p,q⟩:=h j e (by simpa using hj);obtain⟨y,hy,hy1⟩:=one _ q;exact⟨y,by rw[Nat.zero_add];exact hy,by rw[p,hy];rfl,hy1⟩)
  have:(mk false [x])=x:=rfl;rw[this,hn];simp only[Sem.run_pure,Array.length_toList,Nat.sub_zero];congr 2
  funext j
  simp[List.getD,Array.getD];split<;>simp[*]
def keyVals :AV→Option (List Value)
 |.d (.v x)=>some [x]
 |.agg cs=>go cs
 |_=>none
where go:List AV→Option (List Value)
 |[]=>some []
 |.d (.v x)::r=>match go r with
  |some l=>some (x::l)
  |none=>none
 |_=>none
def zi2 :AV→Bool
 |.agg _=>true
 |.d (.agg _)=>true
 |_=>false
theorem zgo {σ:Names}{I:Nat→Prop}{w:World}{x:AV}{v:Value}{kc:List Value}(h:keyVals x=some kc)(hv:RV σ I w x v):v=mk (zi2 x) kc:=by
 have go:∀(cs:List AV) (xs:List Value) (kc:List Value),keyVals.go cs=some kc→xs.length=cs.length→(∀(i:Nat) c x,cs[i]? =some c→xs[i]? =some x→RV σ I w c x)→xs=kc:=by
  intro cs;induction cs with
  |nil=>intro xs kc h hl _;cases h;exact List.eq_nil_of_length_eq_zero hl
  |cons c cs ih=>
   intro xs kc h hl hr;cases xs with
   |nil=>cases hl
   |cons x xs=>
    unfold keyVals.go at h;split at h
    ·cases‹c::cs=[]›
    ·rename_i y r e;cases e;split at h
     ·rename_i l hl';cases h;rw[ih xs l hl' (by simpa using hl) (fun i c x h1 h2=>hr (i+1) c x (by simpa using h1) (by simpa using h2))];rw[RV_v (hr 0 _ x rfl rfl)]
     ·cases h
    ·cases h
 unfold keyVals at h;split at h
 ·cases h;rw[RV_v hv];rfl
 ·rename_i cs;cases hv with
  |agg hl hr=>rw[go cs _ kc h hl hr];rfl
 ·cases h
def vA (va:Bool)(d:List D):AV:=if va then .agg (d.map .d)else .d (d.headD (.v undef))
def qil (va:Bool)(zero:List D):Option (List D)→AV
 |some d=>vA va d
 |none=>vA va zero
theorem qoe {σ:Names}{I:Nat→Prop}{w:World}{va:Bool}{d:List D}{xs:List Value}(hl:d.length=xs.length)(h:∀(j:Nat) c x,d[j]? =some c→xs[j]? =some x→RD I w c x):RV σ I w (vA va d) (mk va xs):=by
 unfold vA mk;cases va with
 |true=>
  refine .agg (by simpa using hl.symm) (fun i c x h1 h2=>?_);simp at h1;obtain⟨y,hy,rfl⟩:=h1;exact .d (h i y x hy h2)
 |false=>
  match d,xs,hl with
  |[],[],_=>exact .d (.v _)
  |c::d,x::xs,_=>exact .d (h 0 c x rfl rfl)
def mapE (mem:Mem):AV→Option (Option (Bool×List CK×Bool×(List Value→Option (List D)))×List Nat)
 |.d (.v (.map none))=>some (none,[])
 |.d (.mp ka ks va look)=>some (some (ka,ks,va,look),[])
 |.own b=>match mem b with
  |some (.map ka ks va look)=>some (some (ka,ks,va,look),[b])
  |_=>none
 |_=>none
def InMap (I:Nat→Prop)(w:World)(ka:Bool)(ks:List CK)(va:Bool)(look:List Value→Option (List D))(v:Value):Prop:=
 ∃(n clock:Nat) (es:Array MapEntry) (keys vals:Nat→List Value),v=.map (some n)∧w.heap[n]? =some (.map es clock)∧
  (∀(i:Nat) e,es[i]? =some e→e.key=mk ka (keys i)∧e.val=mk va (vals i)∧zc3 ks (keys i)=true∧∃d,look (keys i)=some d∧d.length=(vals i).length)∧
  (∀(i j:Nat),i<es.size→j<es.size→keys i=keys j→i=j)∧(∀k d,look k=some d→∃i,i<es.size∧keys i=k)∧
  (∀(i:Nat) d (j:Nat) c x,i<es.size→look (keys i)=some d→d[j]? =some c→(vals i)[j]? =some x→RD I w c x)
def qxp (I:Nat→Prop)(w:World)(v:Value):Option (Bool×List CK×Bool×(List Value→Option (List D)))→Prop
 |none=>v=.map none
 |some (ka,ks,va,look)=>InMap I w ka ks va look v
theorem zw6 {σ:Names}{I:Nat→Prop}{w:World}{mem mr:Mem}{x:AV}{v:Value}{q}{rd:List Nat}(h:mapE mem x=some (q,rd))(hv:RV σ I w x v)(hm:RM σ I w mr)(hr:∀b∈rd,∀k,mem b=some k→mr b=some k):qxp I w v q:=by
 unfold mapE at h;split at h
 ·cases h;exact RV_v hv
 ·cases h;cases hv with
  |d hv=>
   cases hv with
   |mp keys vals hI hb hk hu hl hv=>exact⟨_,_,_,keys,vals,rfl,hb,hk,hu,hl,hv⟩
 ·rename_i b;split at h
  ·rename_i ka ks va look hb;cases h;obtain⟨y,hy,hrb,_⟩:=hm.blk b _ (hr b (by simp) _ hb);cases hv with
   |own h' _=>
    rw[hy]at h';cases h';cases hrb with
    |map keys vals hw _ hk hu hl hv=>exact⟨_,_,_,keys,vals,rfl,hw,hk,hu,hl,hv⟩
  ·cases h
 ·cases h
theorem InMap.seek {I:Nat→Prop}{w:World}{ka va:Bool}{ks:List CK}{look:List Value→Option (List D)}{es:Array MapEntry}{keys vals:Nat→List Value}
  (hk:∀(i:Nat) e,es[i]? =some e→e.key=mk ka (keys i)∧e.val=mk va (vals i)∧zc3 ks (keys i)=true∧∃d,look (keys i)=some d∧d.length=(vals i).length)
  (hl:∀k d,look k=some d→∃i,i<es.size∧keys i=k) (kc:List Value):
  (∃i,AI.seek kc keys es.size 0=some i∧i<es.size∧keys i=kc∧∃d,look kc=some d∧d.length=(vals i).length)∨(AI.seek kc keys es.size 0=none∧look kc=none):=by
 cases hs:AI.seek kc keys es.size 0 with
 |some i=>
  have:=zg7 hs;have hlt:i<es.size:=by omega
  obtain⟨_,_,_,d,h1,h2⟩:=hk i _ (Array.getElem?_eq_getElem hlt);exact .inl ⟨i,rfl,hlt,this.2.2.symm,d,by rw[this.2.2];exact h1,h2⟩
 |none=>
  refine .inr ⟨rfl,?_⟩;cases hq:look kc with
  |none=>rfl
  |some d=>
   obtain⟨i,hi,he⟩:=hl kc d hq;exact absurd he.symm (zpo hs i (by omega) (by omega))
theorem qie {ka:Bool}{ks:List CK}{kc:List Value}(h:zc3 ks kc=true):kc.length=ks.length:=by
 induction ks generalizing kc with
 |nil=>cases kc with
  |nil=>rfl
  |cons _ _=>cases h
 |cons k ks ih=>cases kc with
  |nil=>cases h
  |cons x xs=>simp only[zc3,Bool.and_eq_true]at h;simp[ih h.2]
theorem qnb {ks:List CK}{kc:List Value}(h:zc3 ks kc=true):∀x∈kc,x.oneCell'=true:=by
 induction ks generalizing kc with
 |nil=>cases kc with
  |nil=>intro x hx;cases hx
  |cons _ _=>cases h
 |cons k ks ih=>cases kc with
  |nil=>cases h
  |cons y ys=>
   simp only[zc3,Bool.and_eq_true]at h;intro x hx;rcases List.mem_cons.1 hx with rfl|hx
   ·have:=h.1;cases k<;>cases x<;>first|rfl| (simp[CK.fits]at this;done)
   ·exact ih h.2 x hx
theorem zk3 {P:Program}{w:World}{T:TypeId}{ka:Bool}{ks:List CK}(hK:zxh P T ka ks){kc:List Value}(hx:zc3 ks kc=true)(empty:Bool):(Instr.checkKey empty 10000 T (mk ka kc)).run P w=.ok () w:=by
 obtain⟨hf,hkt,hl,hd⟩:=hK;split at hd
 case h_2=>exact hd.elim
 rename_i d hu;refine zv1 hkt (by rw[qie (ka:=ka) hx,hl]) (fun d' hd'=>?_) (fun h=>?_) (qnb hx) empty
 ·rw[hu]at hd';cases hd';exact hd.1.symm
 ·have h1:=hd.2 h;have h2:=qie (ka:=ka) hx;have:ks.length=1:=by
   split at h1<;>first|rfl|cases h1
  rw[this]at h2
  match kc,h2 with
  |[x],_=>exact⟨x,rfl⟩
def zt7 (te:TI)(ka:Bool)(ks:List CK)(mem:Mem)(x key:AV)(ok:Bool):Option (Prop×Eff):=
 match mapE mem x,keyVals key with
 |some (q,rd),some kc=>
  let zero:=te.zero.map D.v
  match q with
  |none=>if te.za=te.agg∧zi2 key=ka then some (zc3 ks kc=true,⟨if ok then .tup [vA te.agg zero,.d (.v (.bool false))]else vA te.agg zero,rd,[]⟩)else none
  |some (ka',ks',va,look)=>if te.za=te.agg∧va=te.agg∧ka'=ka∧ks'=ks∧zi2 key=ka then
    some (zc3 ks kc=true,⟨if ok then .tup [qil va zero (look kc),.d (.v (.bool (look kc).isSome))]else qil va zero (look kc),rd,[]⟩)else none
 |_,_=>none
theorem mapK {P:Program}{T:TypeId}{ti:TI}(hT:tiOf P T=some ti){K E:TypeId}(hk:ti.k=.map K E):P.underlying T=some (.map K E):=by
 obtain⟨i,d,z,hi,hd,hz,rfl⟩:=zah hT;rw[hd];simp only at hk;cases d<;>simp[kOf]at hk;obtain⟨rfl,rfl⟩:=hk;rfl
theorem zsz {P:Program}{w:World}{E:TypeId}{te:TI}(hE:tiOf P E=some te)(hza:te.za=te.agg):(zeroValue E).run P w=.ok (mk te.agg te.zero) w:=by
 obtain⟨i,d,z,hi,hd,hz,hte⟩:=zah hE;have h1:te.za=znt z:=by rw[hte]
 have h2:te.zero=z.cells.toList:=by rw[hte]
 have:z=mk te.agg te.zero:=by
  rw[←hza,h1,h2];cases z<;>simp[znt,mk,Value.cells]
 rw[←this];simp[zeroValue,typeInfo,hi,hz]
theorem qhu {P:Program}{o:Oper}{T:TypeId}{x key:Operand}{ok:Bool}(ho:o.op=.lookup T x key ok)(tm:Nat→AV)(mem:Mem)(nm:Nat){ti te:TI}{K E:TypeId}(hT:tiOf P T=some ti)(hk:ti.k=.map K E)(hE:tiOf P E=some te){ka:Bool}{ks:List CK}(hK:zxh P K ka ks)
  {sc:Prop} {e:Eff} (he:zt7 te ka ks mem (ev tm x) (ev tm key) ok=some (sc,e)) (hsc:sc):OpOk P o tm (e.mr mem) nm e.res (e.mw mem):=by
 unfold zt7 at he;split at he
 case h_2=>cases he
 rename_i q rd kc hq hkc;have hu:=mapK hT hk;have tupR:∀{σ:Names} {I:Nat→Prop} {w:World} {r:AV} {v:Value} {b:Bool},RV σ I w r v→RV σ I w (.tup [r,.d (.v (.bool b))]) (.tuple #[v,.bool b]):=by
  intro σ I w r v b h;refine .tup (xs:=[v,.bool b]) rfl (fun i c y h1 h2=>?_)
  match i,h1,h2 with
  |0,h1,h2=>simp at h1 h2;subst h1;subst h2;exact h
  |1,h1,h2=>simp at h1 h2;subst h1;subst h2;exact .d (.v _)
  |i+2,h1,h2=>simp at h1
 have hz:∀{σ:Names} {I:Nat→Prop} {w:World},RV σ I w (vA te.agg (te.zero.map D.v)) (mk te.agg te.zero):=by
  intro σ I w;refine qoe (by simp) (fun j c x h1 h2=>?_);rw[List.getElem?_map,h2]at h1;cases h1;exact .v _
 simp only at he;split at he
 ·split at he
  ·rename_i hc;cases he;rw[Eff.mw_nil];refine OpOk.pure fun a w σ I h hm=>?_;have hvk:=zgo hkc (zaz (σ:=σ) (I:=I) (w:=w) (tm:=tm) (a:=a) (x:=key) fun s e=>h s (by simp[ho,Op.operands,e]));have hx:=zw6 hq (zaz (σ:=σ) (I:=I) (w:=w) (tm:=tm) (a:=a) (x:=x) fun s e=>h s (by simp[ho,Op.operands,e])) hm (fun b hb k hk=>Eff.mr_of hk (.inl hb));simp only[qxp]at hx;rw[hc.2]at hvk;have hck:=zk3 (w:=w) hK hsc;have hfk:=zhu (w:=w) hK hsc (keys:=fun _=>[]) (es:=#[]) (fun j e h=>by simp at h);have hzr:=zsz (w:=w) hE hc.1;have hrun:(Instr.lookup T (a.eval x) (a.eval key) ok).run P w=.ok (if ok then .tuple #[mk te.agg te.zero,.bool false]else mk te.agg te.zero) w:=by
    rw[hx,hvk];simp only[Instr.lookup,Sem.run_bind,run_underlying hu,Result.andThen_ok,pure_bind,hck,hfk];simp[seek,hzr]
   refine⟨_,by simp only[execOp,ho,Sem.run_bind,hrun,Result.andThen_ok];rfl,?_⟩;cases ok with
   |true=>exact tupR hz
   |false=>exact hz
  ·cases he
 ·rename_i ka' ks' va look;split at he
  ·rename_i hc;obtain⟨c1,rfl,rfl,rfl,c5⟩:=hc;cases he;rw[Eff.mw_nil];refine OpOk.pure fun a w σ I h hm=>?_;have hvk:=zgo hkc (zaz (σ:=σ) (I:=I) (w:=w) (tm:=tm) (a:=a) (x:=key) fun s e=>h s (by simp[ho,Op.operands,e]));have hx:=zw6 hq (zaz (σ:=σ) (I:=I) (w:=w) (tm:=tm) (a:=a) (x:=x) fun s e=>h s (by simp[ho,Op.operands,e])) hm (fun b hb k hk=>Eff.mr_of hk (.inl hb));obtain⟨n,clock,es,keys,vals,hxv,hw,g1,g2,g3,g4⟩:=hx;rw[c5]at hvk;have hck:=fun em=>zk3 (w:=w) hK hsc em;have hfk:=zhu (w:=w) hK hsc (keys:=keys) (es:=es) (fun j e h=>⟨(g1 j e h).1,(g1 j e h).2.2.1⟩);have hzr:=zsz (w:=w) hE c1;have hg:(getObj n).run P w=.ok (.map es clock) w:=by simp[getObj,Sem.run,hw]
   rcases InMap.seek (I:=I) (w:=w) g1 g3 kc with⟨i,s1,s2,s3,d,s4,s5⟩|⟨s1,s2⟩
   ·have hee:es[i]? =some es[i]:=Array.getElem?_eq_getElem s2;have hval:(es.getD i default).val=mk te.agg (vals i):=by
     rw[show es.getD i default=es[i] by simp[Array.getD,s2]];exact(g1 i _ hee).2.1
    have hrun:(Instr.lookup T (a.eval x) (a.eval key) ok).run P w=.ok (if ok then .tuple #[mk te.agg (vals i),.bool true]else mk te.agg (vals i)) w:=by
     rw[hxv,hvk];simp only[Instr.lookup,Sem.run_bind,run_underlying hu,Result.andThen_ok,hg,Sem.run_pure,hck,hfk,s1,Option.map_some,hval]
    refine⟨_,by simp only[execOp,ho,Sem.run_bind,hrun,Result.andThen_ok];rfl,?_⟩;have hres:RV σ I w (vA te.agg d) (mk te.agg (vals i)):=qoe s5 (fun j c x h1 h2=>g4 i d j c x s2 (by rw[s3];exact s4) h1 h2);simp only[s4,qil,Option.isSome_some];cases ok with
    |true=>exact tupR hres
    |false=>exact hres
   ·have hrun:(Instr.lookup T (a.eval x) (a.eval key) ok).run P w=.ok (if ok then .tuple #[mk te.agg te.zero,.bool false]else mk te.agg te.zero) w:=by
     rw[hxv,hvk];simp only[Instr.lookup,Sem.run_bind,run_underlying hu,Result.andThen_ok,hg,Sem.run_pure,hck,hfk,s1,Option.map_none,hzr]
    refine⟨_,by simp only[execOp,ho,Sem.run_bind,hrun,Result.andThen_ok];rfl,?_⟩;simp only[s2,qil,Option.isSome_none];cases ok with
    |true=>exact tupR hz
    |false=>exact hz
  ·cases he
noncomputable def updL (look:List Value→Option (List D))(kc:List Value)(d:List D):List Value→Option (List D):=fun k=>if k=kc then some d else look k
noncomputable def zo6 (te:TI)(ka:Bool)(ks:List CK)(mem:Mem)(m key x:AV):Option (Prop×Eff):=
 match m,keyVals key,(cellsOf x).bind toDs with
 |.own b,some kc,some ds=>match mem b with
  |some (.map ka' ks' va look)=>if ka'=ka∧ks'=ks∧zi2 key=ka∧zi2 x=va then some (zc3 ks kc=true,⟨.d (.v undef),[],[(b,some (.map ka ks va (updL look kc ds)))]⟩)else none
  |_=>none
 |_,_,_=>none
theorem znj {k:CK}{x:Value}(h:k.fits x=true)(n:Nat):Instr.sameBits n x x=true:=by
 cases k<;>cases x<;>first| (simp[CK.fits]at h;done)|skip
 ·cases n<;>simp[Instr.sameBits]
 ·cases n<;>simp[Instr.sameBits]
 ·rename_i s;have:(s==s)=true:=by rw[beq_toListBytes,zut];simp
  cases n<;>simp[Instr.sameBits,this]
theorem zy4 {ks:List CK}{kc:List Value}(h:zc3 ks kc=true){ka:Bool}(h1:ka=false→∃k,ks=[k])(n:Nat):Instr.sameBits (n+1) (mk ka kc) (mk ka kc)=true:=by
 have key:∀(ks:List CK) (kc:List Value),zc3 ks kc=true→(kc.zip kc).all (fun(x,y)=>Instr.sameBits n x y)=true:=by
  intro ks;induction ks with
  |nil=>intro kc h;cases kc with
   |nil=>rfl
   |cons _ _=>cases h
  |cons k ks ih=>intro kc h;cases kc with
   |nil=>cases h
   |cons x xs=>
    simp only[zc3,Bool.and_eq_true]at h;simp only[List.zip_cons_cons,List.all_cons,Bool.and_eq_true];exact⟨znj h.1 n,ih xs h.2⟩
 cases ka with
 |true=>
  simp only[mk,if_true,Instr.sameBits];simpa using key ks kc h
 |false=>
  obtain⟨k,rfl⟩:=h1 rfl
  match kc,h with
  |[x],h=>exact znj (k:=k) (x:=x) (by simpa[zc3]using h) (n+1)
  |[],h=>cases h
  |_::_::_,h=>simp[zc3]at h
theorem qiv {P:Program}{T:TypeId}{ka:Bool}{ks:List CK}(h:zxh P T ka ks):ka=false→∃k,ks=[k]:=by
 intro hk;obtain⟨_,_,_,hd⟩:=h;split at hd
 case h_2=>exact hd.elim
 have:=hd.2 hk;split at this<;>first|exact⟨_,rfl⟩|cases this
theorem zkz (look:List Value→Option (List D))(kc:List Value)(d:List D):updL look kc d kc=some d:=by simp[updL]
theorem zfv {look:List Value→Option (List D)}{kc k:List Value}{d:List D}(h:k≠kc):updL look kc d k=look k:=by simp[updL,h]
theorem zqw {σ:Names}{I:Nat→Prop}{w w':World}{ka va:Bool}{ks:List CK}{look:List Value→Option (List D)}{n clock:Nat}{es:Array MapEntry}{keys vals:Nat→List Value}
  (g0:∀(i:Nat) e,es[i]? =some e→e.born<clock) (g1:∀(i:Nat) e,es[i]? =some e→e.key=mk ka (keys i)∧e.val=mk va (vals i)∧zc3 ks (keys i)=true∧∃d,look (keys i)=some d∧d.length=(vals i).length)
  (g2:∀(i j:Nat),i<es.size→j<es.size→keys i=keys j→i=j) (g3:∀k d,look k=some d→∃i,i<es.size∧keys i=k)
  (g4:∀(i:Nat) d (j:Nat) c x,i<es.size→look (keys i)=some d→d[j]? =some c→(vals i)[j]? =some x→RD I w' c x)
  {kc:List Value} (hf:zc3 ks kc=true) {ds:List D} {xs:List Value} (hl:ds.length=xs.length) (hr:∀(j:Nat) c x,ds[j]? =some c→xs[j]? =some x→RD I w' c x):
  (∀i,seek kc keys es.size 0=some i→w'.heap[n]? =some (.map (es.modify i fun e=>{e with key:=mk ka kc,val:=mk va xs}) clock)→RB σ I w' (.map ka ks va (updL look kc ds)) (.map (some n)))∧
  (seek kc keys es.size 0=none→w'.heap[n]? =some (.map (es.push {key:=mk ka kc,val:=mk va xs,born:=clock}) (clock+1))→RB σ I w' (.map ka ks va (updL look kc ds)) (.map (some n))):=by
 constructor
 ·intro i hs hw;obtain⟨_,hi,hki⟩:=zg7 hs;have hi:i<es.size:=by omega
  refine .map keys (fun j=>if j=i then xs else vals j) hw (fun j e hj=>by
   rw[Array.getElem?_modify]at hj;split at hj
   ·obtain⟨e0,h0,rfl⟩:=Option.map_eq_some_iff.1 hj;exact g0 _ e0 h0
   ·exact g0 j e hj) (fun j e hj=>?_) (fun a b ha hb=>?_) (fun k d hk=>?_) (fun j d q c x hj hlk hc hx=>?_)
  ·rw[Array.getElem?_modify]at hj;split at hj
   ·rename_i e';subst e';have hee:es[i]? =some es[i]:=Array.getElem?_eq_getElem hi;rw[hee]at hj;simp only[Option.map_some,Option.some.injEq]at hj;subst hj;refine⟨by rw[hki],by simp,by rw[←hki];exact hf,ds,?_,by simp[hl]⟩;rw[←hki];exact zkz _ _ _
   ·rename_i e';obtain⟨a1,a2,a3,d,a4,a5⟩:=g1 j e hj;have hjlt:=(Array.getElem?_eq_some_iff.1 hj).1;have hne:keys j≠kc:=fun h=>e' (g2 i j hi hjlt (by rw[h,hki]))
    refine⟨a1,by simp[Ne.symm e',a2],a3,d,?_,by simp[Ne.symm e',a5]⟩;rw[zfv hne];exact a4
  ·simp only[Array.size_modify]at ha hb;exact g2 a b ha hb
  ·simp only[Array.size_modify];by_cases hkk:k=kc
   ·subst hkk;exact⟨i,hi,hki.symm⟩
   ·rw[zfv hkk]at hk;exact g3 k d hk
  ·simp only[Array.size_modify]at hj;by_cases e':j=i
   ·subst e';rw[←hki,zkz]at hlk;cases hlk;simp only[if_true]at hx;exact hr q c x hc hx
   ·simp only[e',if_false]at hx;have hne:keys j≠kc:=fun h=>e' (g2 j i hj hi (by rw[h,hki]))
    rw[zfv hne]at hlk;exact g4 j d q c x hj hlk hc hx
 ·intro hs hw;have hno:∀j,j<es.size→keys j≠kc:=fun j hj h=>zpo hs j (by omega) (by omega) h.symm
  refine .map (fun j=>if j=es.size then kc else keys j) (fun j=>if j=es.size then xs else vals j) hw (fun j e hj=>by
   rw[Array.getElem?_push]at hj;split at hj
   ·cases hj;exact Nat.lt_succ_self _
   ·exact Nat.lt_succ_of_lt (g0 j e hj)) (fun j e hj=>?_) (fun a b ha hb=>?_) (fun k d hk=>?_) (fun j d q c x hj hlk hc hx=>?_)
  ·rw[Array.getElem?_push]at hj;split at hj
   ·rename_i e';cases hj;subst e';simp only[if_true];exact⟨trivial,trivial,hf,ds,zkz _ _ _,hl⟩
   ·rename_i e';obtain⟨a1,a2,a3,d,a4,a5⟩:=g1 j e hj;have hjlt:=(Array.getElem?_eq_some_iff.1 hj).1;simp only[e',if_false];refine⟨a1,a2,a3,d,?_,a5⟩;rw[zfv (hno j hjlt)];exact a4
  ·intro h;simp only[Array.size_push]at ha hb;by_cases ea:a=es.size<;>by_cases eb:b=es.size
   ·omega
   ·simp only[ea,eb,if_true,if_false]at h;exact absurd h.symm (hno b (by omega))
   ·simp only[ea,eb,if_true,if_false]at h;exact absurd h (hno a (by omega))
   ·simp only[ea,eb,if_false]at h;exact g2 a b (by omega) (by omega) h
  ·simp only[Array.size_push];by_cases hkk:k=kc
   ·exact⟨es.size,by omega,by simp[hkk]⟩
   ·rw[zfv hkk]at hk;obtain⟨i,hi,he⟩:=g3 k d hk;exact⟨i,by omega,by simp[show i≠es.size by omega,he]⟩
  ·simp only[Array.size_push]at hj;by_cases e':j=es.size
   ·simp only[e',if_true]at hlk hx;rw[zkz]at hlk;cases hlk;exact hr q c x hc hx
   ·simp only[e',if_false]at hlk hx;rw[zfv (hno j (by omega))]at hlk;exact g4 j d q c x (by omega) hlk hc hx
theorem qoj {σ:Names}{I:Nat→Prop}{w:World}{x:AV}{v:Value}{cs:List AV}(hv:RV σ I w x v)(hc:cellsOf x=some cs):v=mk (zi2 x) v.cells.toList:=by
 have one:∀{v:Value},v.oneCell'=true→v=mk false v.cells.toList:=fun h=>by rw[zl8 h];rfl
 cases hv with
 |agg hl hr=>simp[zi2,mk,Value.cells]
 |d h=>
  cases h with
  |agg hl hr=>simp[zi2,mk,Value.cells]
  |v y=>
   simp only[cellsOf]at hc;split at hc
   ·exact one ‹_›
   ·cases hc
  |_=>exact one rfl
 |any y=>cases hc
 |tup _ _=>cases hc
 |own _ h1=>exact one h1
 |sl _ hs=>cases hs<;>exact one rfl
 |_=>exact one rfl
theorem zwl {P:Program}{o:Oper}{T:TypeId}{m key x:Operand}(ho:o.op=.mapUpdate T m key x∨o.op=.insert T m key x)(tm:Nat→AV)(mem:Mem)(nm:Nat){ti te:TI}{K E:TypeId}(hT:tiOf P T=some ti)(hk:ti.k=.map K E){ka:Bool}{ks:List CK}(hK:zxh P K ka ks)
  {sc:Prop} {e:Eff} (he:zo6 te ka ks mem (ev tm m) (ev tm key) (ev tm x)=some (sc,e)) (hsc:sc):OpOk P o tm (e.mr mem) nm e.res (e.mw mem):=by
 unfold zo6 at he;split at he
 case h_2=>cases he
 rename_i b kc ds hm0 hkc hds;split at he
 case h_2=>cases he
 rename_i ka' ks' va look hb;split at he
 case isFalse=>cases he
 rename_i hc;obtain⟨rfl,rfl,c3,c4⟩:=hc;cases he;have hu:=mapK hT hk;refine OpOk.skip fun a w σ I h1 h h3 _=>?_;have hops:o.op.operands=#[m,key,x]:=by rcases ho with ho|ho<;>rw[ho]<;>rfl
 have hvk:=zgo hkc (zaz (σ:=σ) (I:=I) (w:=w) (tm:=tm) (a:=a) (x:=key) fun s e=>h s (by simp[hops,e]));rw[c3]at hvk;have hvm:=zaz (σ:=σ) (I:=I) (w:=w) (tm:=tm) (a:=a) (x:=m) fun s e=>h s (by simp[hops,e])
 have hvx:=zaz (σ:=σ) (I:=I) (w:=w) (tm:=tm) (a:=a) (x:=x) fun s e=>h s (by simp[hops,e])
 rw[hm0]at hvm;obtain⟨cl,hcl,hds'⟩:=Option.bind_eq_some_iff.1 hds;obtain⟨v1,v2⟩:=zjr hvx hcl;have hcd:=zcg hds';subst hcd;have hvmk:a.eval x=mk va (a.eval x).cells.toList:=by rw[←c4];exact qoj hvx hcl
 obtain⟨y,hy,hrb,_⟩:=h3.blk b _ (Eff.mr_of hb (.inr (by simp[zat])));generalize hev:a.eval m=u at hvm;cases hvm with
 |own h' _=>
  rw[hy]at h';cases h';cases hrb with
  | @map _ _ _ _ n clock es keys vals hw g0 g1 g2 g3 g4=>
    have hck:=zk3 (w:=w) hK hsc false;have hfk:=zhu (w:=w) hK hsc (keys:=keys) (es:=es) (fun j e h=>⟨(g1 j e h).1,(g1 j e h).2.2.1⟩);have hg:(getObj n).run P w=.ok (.map es clock) w:=by simp[getObj,Sem.run,hw]
    have hnI:¬I n:=by
     obtain⟨y',hy',_,hyn⟩:=h3.blk b _ (Eff.mr_of hb (.inr (by simp[zat])));rw[hy]at hy';cases hy';exact(hyn n rfl).2
    have fin:∀ob:Obj,(Instr.mapUpdate T (a.eval m) (a.eval key) (a.eval x)).run P w=.ok () {w with heap:=w.heap.setIfInBounds n ob}→
      RB σ I {w with heap:=w.heap.setIfInBounds n ob} (.map ka' ks' va (updL look kc ds)) (.map (some n))→
      ∃w' σ' I',(execOp a.eval o).run P w=.ok .skip w'∧Post σ I w ((Eff.mk (.d (.v undef)) [] [(b,some (.map ka' ks' va (updL look kc ds)))]).mr mem) nm σ' I' w' ((Eff.mk (.d (.v undef)) [] [(b,some (.map ka' ks' va (updL look kc ds)))]).mw mem):=by
     intro ob hrun hk;refine⟨_,σ,I,by rcases ho with ho|ho<;>simp only[execOp,ho,Sem.run_bind,hrun,Result.andThen_ok]<;>rfl,?_⟩;refine Post.write (w':={w with heap:=w.heap.setIfInBounds n ob}) (b:=b) h1 h3 (Eff.mr_of hb (.inr (by simp[zat]))) hy rfl (fun j hj=>?_) (by simp) rfl rfl ⟨rfl,Nat.le_refl _⟩ hk zg6;simp[Array.getElem?_setIfInBounds_ne (Ne.symm hj)]
    have hlt:=(Array.getElem?_eq_some_iff.1 hw).1;have g4':∀ob:Obj,∀(i:Nat) d (j:Nat) c x,i<es.size→look (keys i)=some d→d[j]? =some c→(vals i)[j]? =some x→RD I {w with heap:=w.heap.setIfInBounds n ob} c x:=fun ob i d j c x q1 q2 q3 q4=>
     (g4 i d j c x q1 q2 q3 q4).mono (fun k hk=>by simp[Array.getElem?_setIfInBounds_ne (show n≠k from fun e=>hnI (e▸hk))]) (fun _ h=>h)
    have hr':∀ob:Obj,∀(j:Nat) c x',ds[j]? =some c→(a.eval x).cells.toList[j]? =some x'→RD I {w with heap:=w.heap.setIfInBounds n ob} c x':=fun ob j c x' q1 q2=>by
     have:=v2 j (.d c) x' (by simp[q1]) (by simpa using q2);exact(RV_D this).mono (fun k hk=>by simp[Array.getElem?_setIfInBounds_ne (show n≠k from fun e=>hnI (e▸hk))]) (fun _ h=>h)
    have hll:ds.length=(a.eval x).cells.toList.length:=by simpa using v1.symm
    cases hs:seek kc keys es.size 0 with
    |some i=>
     obtain⟨_,hi,hki⟩:=zg7 hs;have hi:i<es.size:=by omega
     have hek:es[i].key=mk ka' kc:=by rw[hki];exact(g1 i _ (Array.getElem?_eq_getElem hi)).1
     refine fin (.map (es.modify i fun e=>{e with key:=mk ka' kc,val:=mk va (a.eval x).cells.toList}) clock) ?_ ((zqw (w:=w) (n:=n) (clock:=clock) g0 g1 g2 g3 (g4' _) hsc hll (hr' _)).1 i hs (by simp[hlt]));rw[hev,hvk]
     conv=>lhs;rw[hvmk]
     have hsb:=zy4 hsc (qiv hK) 9999;simp only[Instr.mapUpdate,Sem.run_bind,run_underlying hu,Result.andThen_ok,hg,hck,hfk,hs,Option.map_some,Array.getElem?_eq_getElem hi,Option.getD_some,hek,Instr.keyThatStays,hsb,if_true,Sem.run_pure];simp[setObj,Sem.run,hw]
    |none=>
     refine fin (.map (es.push {key:=mk ka' kc,val:=mk va (a.eval x).cells.toList,born:=clock}) (clock+1)) ?_ ((zqw (w:=w) (n:=n) (clock:=clock) g0 g1 g2 g3 (g4' _) hsc hll (hr' _)).2 hs (by simp[hlt]));rw[hev,hvk]
     conv=>lhs;rw[hvmk]
     simp only[Instr.mapUpdate,Sem.run_bind,run_underlying hu,Result.andThen_ok,hg,hck,hfk,hs,Option.map_none];simp[setObj,Sem.run,hw]
end Go.AI
namespace Go.AI
def byteC (c:UInt8):List D:=[.v (.int .u8 c.toNat)]
def unB1 :List D→UInt8
 |[.v (.int .u8 n)]=>UInt8.ofNat n.toNat
 |_=>0
def isB1 :List D→Bool
 |[.v (.int .u8 _)]=>true
 |_=>false
def qco (es:List (List D)):Prop:=∀e∈es,isB1 e=true
def unB (es:List (List D)):List UInt8:=es.map unB1
@[simp] theorem unB1_byteC (c:UInt8):unB1 (byteC c)=c:=by simp[unB1,byteC]
@[simp] theorem bytesAll_bytesC (l:List UInt8):qco (l.map byteC)=True:=eq_true (fun e he=>by obtain⟨c,_,rfl⟩:=List.mem_map.1 he;rfl)
@[simp] theorem isB1_byteC (c:UInt8):isB1 (byteC c)=true:=rfl
def qj0 (ks kd:K)(eb:Option K)(mem:Mem)(x:AV):Option (Prop×Eff):=
 match kd,x with
 |.int k,.d (.v (.int _ n))=>some (True,⟨.d (.v (.int k (k.wrap n))),[],[]⟩)
 |.str,.d (.v (.string s))=>some (True,⟨.d (.v (.string s)),[],[]⟩)
 |.str,x=>match ks,eb,srcE 1 mem x with
  |.slc _,some (.int .u8),some (es,rd)=>some (qco es,⟨.d (.v (.string ⟨(unB es).toArray⟩)),rd,[]⟩)
  |_,_,_=>none
 |_,_=>none
theorem intK {P:Program}{T:TypeId}{ti:TI}(hT:tiOf P T=some ti){k:IntKind}(hk:ti.k=.int k):P.underlying T=some (.int k):=by
 obtain⟨i,d,z,hi,hd,hz,rfl⟩:=zah hT;rw[hd];simp only at hk;cases d<;>simp[kOf]at hk<;>simp[hk]
def nB :List D→Int
 |[.v (.int .u8 n)]=>n
 |_=>0
theorem qpr (e:List D):unB1 e=UInt8.ofNat (nB e).toNat:=by
 unfold unB1 nB;split<;>simp_all
theorem qd5 {w:World}{I:Nat→Prop}{es:List (List D)}{v:Value}{a:Option Addr}{c:Nat}{val:Nat→Nat→Value}(h:Lies I w 1 es v a c val)(hb:∀e∈es,isB1 e=true):
  ze4 1 es.length val=es.map fun e=>Value.int .u8 (nB e):=by
 apply List.ext_getElem?;intro q;have hlen:=zbe 1 es.length val;rw[Nat.mul_one]at hlen;rcases Nat.lt_or_ge q es.length with hq|hq
 ·have h1:=qcd (sz:=1) (n:=es.length) (val:=val) (i:=q) (j:=0) hq (by omega);rw[Nat.mul_one,Nat.add_zero]at h1;have he:es[q]? =some es[q]:=List.getElem?_eq_getElem hq;have hb1:=hb _ (List.getElem_mem hq);rw[h1,List.getElem?_map,he];generalize es[q]=E at hb1 he;unfold isB1 at hb1;split at hb1
  ·rename_i n;have hr:=h.rd q _ 0 _ he rfl;generalize hv:val q 0=vv at hr;cases hr;rfl
  ·cases hb1
 ·rw[List.getElem?_eq_none (by omega),List.getElem?_eq_none (by simpa using hq)]
theorem qa6 {P:Program}{w:World}:∀(l:List (List D)) (s:ByteArray),(forIn (m:=Sem) (l.map fun e=>Value.int .u8 (nB e)) s fun c r=>
  match c with
  |.int .u8 n=>pure (ForInStep.yield (r.push (UInt8.ofNat n.toNat)))
  |_=>do
   stuck (α:=PUnit) "bytesToString: byte expected"
   pure (ForInStep.yield r)).run P w=.ok ⟨s.data++(unB l).toArray⟩ w
 |[],s=>by simp[unB]
 |e::l,s=>by
  simp only[List.map_cons,List.forIn_cons,Sem.run_bind,Sem.run_pure,Result.andThen_ok,qa6 l];congr 2
  apply Array.ext';simp[unB,qpr]
theorem zms {P:Program}{w:World}{I:Nat→Prop}{es:List (List D)}{v:Value}{a:Option Addr}{c:Nat}{val:Nat→Nat→Value}(h:Lies I w 1 es v a c val)(hb:∀e∈es,isB1 e=true):
  (Conv.bytesToString v).run P w=.ok (.string ⟨(unB es).toArray⟩) w:=by
 have hv:=h.v;subst hv;cases a with
 |none=>
  obtain⟨rfl,rfl⟩:=h.non rfl;simp[Conv.bytesToString,unB];rfl
 |some ad=>
  have hfl:=h.flat rfl;have hlen:=zbe 1 es.length val;rw[Nat.mul_one]at hlen;have hload:(loadCells ad es.length).run P w=.ok (ze4 1 es.length val).toArray w:=by
   have:=run_loadCells_list (P:=P) w ad _ hfl
   rwa[hlen]at this
  rw[qd5 h hb]at hload;have hp:=qa6 (P:=P) (w:=w) es ByteArray.empty;simp only[Conv.bytesToString,Sem.run_bind,hload,Result.andThen_ok];rw[←Array.forIn_toList];simp only[]at hp⊢;refine Eq.trans (congrArg (fun r=>Result.andThen r fun a w'=>Sem.run P (pure (Value.string a)) w') hp) ?_;simp only[Result.andThen_ok,Sem.run_pure];congr 3
  exact Array.empty_append
theorem qdz {P:Program}{o:Oper}{S T:TypeId}{x:Operand}(ho:o.op=.convert S T x)(tm:Nat→AV)(mem:Mem)(nm:Nat){ts td:TI}(hS:tiOf P S=some ts)(hT:tiOf P T=some td){eb:Option K}
  (hE:∀E,ts.k=.slc E→∀k,eb=some k→∃te,tiOf P E=some te∧te.k=k∧te.sz=1) {sc:Prop} {e:Eff} (he:qj0 ts.k td.k eb mem (ev tm x)=some (sc,e)) (hsc:sc):OpOk P o tm (e.mr mem) nm e.res (e.mw mem):=by
 have hwr:e.wr=[]:=by
  unfold qj0 at he
  repeat' split at he
  all_goals first
   | (cases he;done)
   | (cases he;rfl)
 have hmw:e.mw mem=e.mr mem:=by
  obtain⟨r,rd,wr⟩:=e;simp only at hwr;subst hwr;exact Eff.mw_nil _ _ _
 rw[hmw];obtain⟨ds,hds⟩:∃d,P.underlying S=some d:=by obtain⟨i,d,z,hi,hd,hz,rfl⟩:=zah hS;exact⟨d,hd⟩
 refine OpOk.pure fun a w σ I h hm=>?_;have hv:=zaz (σ:=σ) (I:=I) (w:=w) (tm:=tm) (a:=a) (x:=x) fun s e=>h s (by simp[ho,Op.operands,e])
 have fin:∀v,(convert S T (a.eval x)).run P w=.ok v w→RV σ I w e.res v→∃v,(execOp a.eval o).run P w=.ok (.value v) w∧RV σ I w e.res v:=
  fun v h1 h2=>⟨v,by simp[execOp,ho,h1],h2⟩
 revert he hv fin hm;generalize ev tm x=A;intro he hm hv fin;unfold qj0 at he;split at he
 ·rename_i k k' n hk;cases he;have hu:=intK hT hk;rw[RV_v hv]at fin;refine fin (.int k (k.wrap n)) ?_ (.d (.v _));simp[convert,run_underlying hds,run_underlying hu,Conv.intToInt]
 ·rename_i s hk;cases he;have hu:=strK hT hk;rw[RV_v hv]at fin;refine fin (.string s) ?_ (.d (.v _));simp only[convert,Sem.run_bind,run_underlying hds,run_underlying hu,Result.andThen_ok];rfl
 ·rename_i hk _;have hu:=strK hT hk;split at he
  ·rename_i E es rd hks hsrc;cases he;have hus:=slcK hS hks;obtain⟨te,hte,hkb,hsz⟩:=hE E hks _ rfl;have hub:=intK hte hkb;obtain⟨a1,c1,val1,hl⟩:=zvl hsrc (fun e he=>by
    have:=hsc e he;unfold isB1 at this;split at this
    ·rfl
    ·cases this) hv hm (fun b hb k hk=>Eff.mr_of hk (.inl hb))
   have hrun:=zms (P:=P) hl hsc;refine fin _ ?_ (.d (.v _));have hlv:=hl.v;generalize a.eval x=u at hlv hrun;subst hlv;simp only[convert,Sem.run_bind,run_underlying hus,run_underlying hu,run_underlying hub,Result.andThen_ok,hrun]
  ·cases he
 ·cases he
def zvr (op:BinOp):AV→AV→Option (Prop×Eff)
 |.d (.v (.int k a)),.d (.v (.int _ b))=>match op with
  |.shl=>some (0≤b,⟨.d (.v (.int k (k.wrap (a*2^(min b.toNat k.bits))))),[],[]⟩)
  |.shr=>some (0≤b,⟨.d (.v (.int k (a.fdiv (2^(min b.toNat k.bits))))),[],[]⟩)
  |_=>none
 |_,_=>none
inductive NK where
 |s|p|i|f|m
 deriving DecidableEq
def K.nk :K→Option NK
 |.slc _=>some .s
 |.ptr _=>some .p
 |.iface _=>some .i
 |.func=>some .f
 |.map _ _=>some .m
 |_=>none
def zzz :NK→Value→Bool
 |.s,.slice none 0 0=>true
 |.p,.pointer none=>true
 |.i,.nilIface=>true
 |.f,.nilFunc=>true
 |.m,.map none=>true
 |_,_=>false
def ztz (mem:Mem):AV→Option (NK×Option Bool×List Nat)
 |.d (.v (.slice none _ _))=>some (.s,some true,[])
 |.d (.v (.pointer none))=>some (.p,some true,[])
 |.d (.v (.pointer (some _)))=>some (.p,some false,[])
 |.d (.v .nilIface)=>some (.i,some true,[])
 |.d (.v (.iface _ _))=>some (.i,some false,[])
 |.d (.v .nilFunc)=>some (.f,some true,[])
 |.d (.v (.func _ _ _))=>some (.f,some false,[])
 |.d (.v (.map none))=>some (.m,some true,[])
 |.d (.ro _ [])=>some (.s,none,[])
 |.d (.ro _ (_::_))=>some (.s,some false,[])
 |.d (.fn _ _ _)=>some (.f,some false,[])
 |.d (.pro _)=>some (.p,some false,[])
 |.d (.ifc _ _)=>some (.i,some false,[])
 |.d (.mp _ _ _ _)=>some (.m,some false,[])
 |.ptr _ _=>some (.p,some false,[])
 |.prow _ _ _ _=>some (.p,some false,[])
 |.fn _ _ _=>some (.f,some false,[])
 |.ifc _ _=>some (.i,some false,[])
 |.own b=>match mem b with
  |some (.grow _ [] _)=>some (.s,none,[b])
  |some (.grow _ (_::_) _)=>some (.s,some false,[b])
  |some (.map _ _ _ _)=>some (.m,some false,[b])
  |_=>none
 |_=>none
def nilA (op:BinOp)(r:Option Bool):Option AV:=
 match op,r with
 |.eql,some b=>some (.d (.v (.bool b)))
 |.neq,some b=>some (.d (.v (.bool (!b))))
 |.eql,none=>some .ab
 |.neq,none=>some .ab
 |_,_=>none
def nilE (op:BinOp)(y:Operand)(k:K)(mem:Mem)(x:AV):Option (Prop×Eff):=
 match y with
 |.const c=>match k.nk,ztz mem x with
  |some t,some (t',r,rd)=>if t=t'∧zzz t c=true then match nilA op r with
    |some v=>some (True,⟨v,rd,[]⟩)
    |none=>none
   else none
  |_,_=>none
 |_=>none
theorem ql3 {P:Program}{o:Oper}{op:BinOp}{T T':TypeId}{x y:Operand}(ho:o.op=.binOp op T x y T')(tm:Nat→AV)(mem:Mem)(nm:Nat){sc:Prop}{e:Eff}(he:zvr op (ev tm x) (ev tm y)=some (sc,e))(hsc:sc):OpOk P o tm (e.mr mem) nm e.res (e.mw mem):=by
 have hwr:e.wr=[]:=by
  unfold zvr at he
  repeat' split at he
  all_goals first
   | (cases he;done)
   | (cases he;rfl)
 have hmw:e.mw mem=e.mr mem:=by
  obtain⟨r,rd,wr⟩:=e;simp only at hwr;subst hwr;exact Eff.mw_nil _ _ _
 rw[hmw];refine OpOk.pure fun a w σ I h hm=>?_;have hx:=zaz (σ:=σ) (I:=I) (w:=w) (tm:=tm) (a:=a) (x:=x) fun s e=>h s (by simp[ho,Op.operands,e])
 have hy:=zaz (σ:=σ) (I:=I) (w:=w) (tm:=tm) (a:=a) (x:=y) fun s e=>h s (by simp[ho,Op.operands,e])
 have fin:∀v,(do eqGuard op T x y (a.eval x) (a.eval y);binOp op T (a.eval x) (a.eval y):Sem Value).run P w=.ok v w→RV σ I w e.res v→
   ∃v,(execOp a.eval o).run P w=.ok (.value v) w∧RV σ I w e.res v:=by
  intro v h1 h2;refine⟨v,?_,h2⟩;simp only[execOp,ho,Sem.run_bind,h1,Result.andThen_ok];rfl
 revert he hx hy fin hm;generalize ev tm x=A;generalize ev tm y=B;intro he hm hx hy fin;unfold zvr at he;split at he
 ·rename_i k p k' q;rw[RV_v hx,RV_v hy]at fin;split at he
  ·cases he;refine fin _ ?_ (.d (.v _));have hq:¬q<0:=by omega
   simp[eqGuard,binOp,Op.shift,hq]
  ·cases he;refine fin _ ?_ (.d (.v _));have hq:¬q<0:=by omega
   simp[eqGuard,binOp,Op.shift,hq]
  ·cases he
 ·cases he
section
variable {P : Program} {w : World} {T : TypeId}
theorem zeg {x:Operand}{u c:Value}{b:Bool}(hg:∀op,eqGuard op T x (.const c) u c=pure ()∨(eqGuard op T x (.const c) u c).run P w=.ok () w)(he:(Op.equal T u c).run P w=.ok b w)
  (h1:binOp .eql T u c=(do pure (.bool (←Op.equal T u c)))) (h2:binOp .neq T u c=(do pure (.bool (!(←Op.equal T u c))))) (op:BinOp) (hop:op=.eql∨op=.neq):
  (do eqGuard op T x (.const c) u c;binOp op T u c:Sem Value).run P w=.ok (.bool (if op=.eql then b else !b)) w:=by
 have hg':∀op,(eqGuard op T x (.const c) u c).run P w=.ok () w:=fun op=>by rcases hg op with h|h;rw[h];rfl;exact h
 rcases hop with rfl|rfl
 ·simp only[Sem.run_bind,hg',Result.andThen_ok,h1,he,Sem.run_pure];rfl
 ·simp only[Sem.run_bind,hg',Result.andThen_ok,h2,he,Sem.run_pure];rfl
theorem qww {E:TypeId}(hd:P.underlying T=some (.slice E))(d:Nat)(a:Option Addr)(n m:Nat):(Op.equalIn (d+1) T (.slice a n m) (.slice none 0 0)).run P w=.ok a.isNone w:=by
 cases a<;>simp[Op.equalIn,run_underlying hd]
theorem qwx {E:TypeId}(hd:P.underlying T=some (.pointer E))(d:Nat)(a:Option Addr):(Op.equalIn (d+1) T (.pointer a) (.pointer none)).run P w=.ok a.isNone w:=by
 cases a<;>simp[Op.equalIn,run_underlying hd]
theorem qwy {K E:TypeId}(hd:P.underlying T=some (.map K E))(d:Nat)(a:Option Nat):(Op.equalIn (d+1) T (.map a) (.map none)).run P w=.ok a.isNone w:=by
 cases a<;>simp[Op.equalIn,run_underlying hd]
theorem qpb {ps rs:Array TypeId}{v:Bool}(hd:P.underlying T=some (.func ps rs v))(d:Nat):(Op.equalIn (d+1) T .nilFunc .nilFunc).run P w=.ok true w∧∀f a c,(Op.equalIn (d+1) T (.func f a c) .nilFunc).run P w=.ok false w:=by
 constructor
 ·simp[Op.equalIn,run_underlying hd]
 ·intro f a c;simp[Op.equalIn,run_underlying hd]
theorem qpa {ms:Array (String×TypeId)}(hd:P.underlying T=some (.interface ms))(d:Nat):(Op.equalIn (d+1) T .nilIface .nilIface).run P w=.ok true w∧∀t y,(Op.equalIn (d+1) T (.iface t y) .nilIface).run P w=.ok false w:=by
 constructor
 ·simp[Op.equalIn,run_underlying hd]
 ·intro f a;simp[Op.equalIn,run_underlying hd]
end
inductive NilV (w:World):NK→Option Bool→Value→Prop
 |s {a:Option Addr} {n m:Nat} {r:Option Bool} (h:r=none∨r=some a.isNone):NilV w .s r (.slice a n m)
 |p {a:Option Addr} {r:Option Bool} (h:r=none∨r=some a.isNone):NilV w .p r (.pointer a)
 |i0:NilV w .i (some true) .nilIface
 |i1 {t:TypeId} {y:Value}:NilV w .i (some false) (.iface t y)
 |f0:NilV w .f (some true) .nilFunc
 |f1 {f:Fn} {a c:Array Value}:NilV w .f (some false) (.func f a c)
 |m {a:Option Nat} {r:Option Bool} (h:r=none∨r=some a.isNone):NilV w .m r (.map a)
theorem zww {σ:Names}{I:Nat→Prop}{w:World}{mem mr:Mem}{x:AV}{t:NK}{r:Option Bool}{rd:List Nat}(h:ztz mem x=some (t,r,rd)){u:Value}(hu:RV σ I w x u)(hm:RM σ I w mr)(hr:∀b∈rd,∀k,mem b=some k→mr b=some k):NilV w t r u:=by
 unfold ztz at h;split at h<;>first
  | (cases h;rw[RV_v hu];first|exact .s (.inr rfl)|exact .p (.inr rfl)|exact .i0|exact .i1|exact .f0|exact .f1|exact .m (.inr rfl))
  |skip
 ·cases h;cases hu with
  |d hu=>cases hu<;>exact .s (.inl rfl)
 ·cases h;cases hu with
  |d hu=>cases hu;exact .s (.inr rfl)
 ·cases h;cases hu with
  |d hu=>cases hu;exact .f1
 ·cases h;cases hu with
  |d hu=>cases hu;exact .p (.inr rfl)
 ·cases h;cases hu with
  |d hu=>cases hu;exact .i1
 ·cases h;cases hu with
  |d hu=>cases hu;exact .m (.inr rfl)
 ·cases h;cases hu;exact .p (.inr rfl)
 ·cases h;cases hu;exact .p (.inr rfl)
 ·cases h;cases hu;exact .f1
 ·cases h;cases hu;exact .i1
 ·rename_i b;split at h
  ·rename_i z T hb;cases h;obtain⟨y,hy,hrb⟩:=hm.grow (hr b (by simp) _ hb);cases hu with
   |own h' _=>
    rw[hy]at h';cases h';rcases hrb with⟨rfl,_⟩|⟨_,rfl,_⟩|⟨_,_,_,rfl,_⟩<;>exact .s (.inl rfl)
  ·rename_i z e es T hb;cases h;obtain⟨y,hy,hrb⟩:=hm.grow (hr b (by simp) _ hb);cases hu with
   |own h' _=>
    rw[hy]at h';cases h';rcases hrb with⟨_,h⟩|⟨_,_,h⟩|⟨_,_,_,rfl,_⟩
    ·cases h
    ·cases h
    ·exact .s (.inr rfl)
  ·rename_i ka ks va look hb;cases h;obtain⟨y,hy,hrb,_⟩:=hm.blk b _ (hr b (by simp) _ hb);cases hu with
   |own h' _=>
    rw[hy]at h';cases h';cases hrb;exact .m (.inr rfl)
  ·cases h
 ·cases h
theorem ok_nil {P:Program}{o:Oper}{op:BinOp}{T T':TypeId}{x y:Operand}(ho:o.op=.binOp op T x y T')(tm:Nat→AV)(mem:Mem)(nm:Nat){ti:TI}(hT:tiOf P T=some ti){sc:Prop}{e:Eff}(he:nilE op y ti.k mem (ev tm x)=some (sc,e)):OpOk P o tm (e.mr mem) nm e.res (e.mw mem):=by
 unfold nilE at he;split at he
 case h_2=>cases he
 rename_i c;split at he
 case h_2=>cases he
 rename_i t t' r rd hkt hn;split at he
 case isFalse=>cases he
 rename_i hc;obtain⟨rfl,hcn⟩:=hc;split at he
 case h_2=>cases he
 rename_i v hv;cases he;rw[Eff.mw_nil];refine OpOk.pure fun a w σ I h hm=>?_;have hx:=zaz (σ:=σ) (I:=I) (w:=w) (tm:=tm) (a:=a) (x:=x) fun s e=>h s (by simp[ho,Op.operands,e])
 have hnv:=zww hn hx hm (fun b hb k hk=>Eff.mr_of hk (.inl hb));obtain⟨i,d,z,hi,hd,hz,hti⟩:=zah hT;have hk:ti.k=kOf d:=by rw[hti]
 rw[hk]at hkt;have hop:op=.eql∨op=.neq:=by
  unfold nilA at hv;split at hv<;>first|exact .inl rfl|exact .inr rfl|cases hv
 have fin:∀b:Bool,(r=none∨r=some b)→(do eqGuard op T x (.const c) (a.eval x) c;binOp op T (a.eval x) c:Sem Value).run P w=.ok (.bool (if op=.eql then b else !b)) w→
   ∃v',(execOp a.eval o).run P w=.ok (.value v') w∧RV σ I w v v':=by
  intro b hb h1;refine⟨.bool (if op=.eql then b else !b),?_,?_⟩
  ·have ec:a.eval (.const c)=c:=rfl;simp only[execOp,ho,ec,Sem.run_bind];simp only[Sem.run_bind]at h1;rw[h1];rfl
  ·unfold nilA at hv;rcases hb with rfl|rfl<;>rcases hop with rfl|rfl<;>simp only[Option.some.injEq]at hv<;>subst hv
   ·exact .ab _
   ·exact .ab _
   ·exact .d (.v _)
   ·exact .d (.v _)
 unfold zzz at hcn;generalize hu:a.eval x=u at hnv fin;clear hx hu;cases hnv with
 | @s aa n m r hb=>
   split at hcn<;>first| (cases‹NK.s=_›;done)| (cases hcn;done)|skip
   cases d<;>simp[kOf,K.nk]at hkt;exact fin aa.isNone hb (zeg (fun op=>.inr (by cases op<;>simp[eqGuard])) (qww hd 9999 aa n m) rfl rfl op hop)
 | @p aa r hb=>
   split at hcn<;>first| (cases‹NK.p=_›;done)| (cases hcn;done)|skip
   cases d<;>simp[kOf,K.nk]at hkt;exact fin aa.isNone hb (zeg (fun op=>.inr (by cases op<;>simp[eqGuard])) (qwx hd 9999 aa) rfl rfl op hop)
 |i0=>
  split at hcn<;>first| (cases‹NK.i=_›;done)| (cases hcn;done)|skip
  cases d<;>simp[kOf,K.nk]at hkt;exact fin true (.inr rfl) (zeg (fun op=>.inr (by cases op<;>simp[eqGuard])) (qpa hd 9999).1 rfl rfl op hop)
 |i1=>
  split at hcn<;>first| (cases‹NK.i=_›;done)| (cases hcn;done)|skip
  cases d<;>simp[kOf,K.nk]at hkt;exact fin false (.inr rfl) (zeg (fun op=>.inr (by cases op<;>simp[eqGuard])) ((qpa hd 9999).2 _ _) rfl rfl op hop)
 |f0=>
  split at hcn<;>first| (cases‹NK.f=_›;done)| (cases hcn;done)|skip
  cases d<;>simp[kOf,K.nk]at hkt;exact fin true (.inr rfl) (zeg (fun op=>.inr (by cases op<;>simp[eqGuard])) (qpb hd 9999).1 rfl rfl op hop)
 |f1=>
  split at hcn<;>first| (cases‹NK.f=_›;done)| (cases hcn;done)|skip
  cases d<;>simp[kOf,K.nk]at hkt;exact fin false (.inr rfl) (zeg (fun op=>.inr (by cases op<;>simp[eqGuard])) ((qpb hd 9999).2 _ _ _) rfl rfl op hop)
 | @m aa r hb=>
   split at hcn<;>first| (cases‹NK.m=_›;done)| (cases hcn;done)|skip
   cases d<;>simp[kOf,K.nk]at hkt;exact fin aa.isNone hb (zeg (fun op=>.inr (by cases op<;>simp[eqGuard])) (qwy hd 9999 aa) rfl rfl op hop)
def capE (k:K):AV→Option (Prop×Eff)
 |.d (.v (.slice none 0 0))=>match k with|.slc _=>some (True,⟨.d (.v (.int .i64 0)),[],[]⟩)|_=>none
 |.d (.ro true es)=>match k with|.slc _=>some (True,⟨.d (.v (.int .i64 es.length)),[],[]⟩)|_=>none
 |_=>none
theorem qvp {P:Program}{o:Oper}{c:Call}(ho:o.op=.call c)(hc:c.callee=.builtin .cap)(tm:Nat→AV)(mem:Mem)(nm:Nat){T:TypeId}(hT:c.argTypes[0]? =some T){ti:TI}(hti:tiOf P T=some ti){x:Operand}(hx:c.args[0]? =some x){sc:Prop}{e:Eff}
  (he:capE ti.k (ev tm x)=some (sc,e)):OpOk P o tm (e.mr mem) nm e.res (e.mw mem):=by
 have hmem:x∈c.args.toList:=by
  rw[←Array.getElem?_toList]at hx;exact List.mem_of_getElem? hx
 have hxe:∀a:Act,(c.args.map a.eval)[0]? =some (a.eval x):=fun a=>by simp[hx]
 unfold capE at he;split at he
 ·rename_i hxx;split at he
  ·rename_i E hk;cases he;rw[Eff.mw_nil];refine OpOk.pure fun a w σ I h hm=>?_;have hv:=zaz (σ:=σ) (I:=I) (w:=w) (tm:=tm) (a:=a) (x:=x) fun s e=>h s (by subst e;simp[ho,Op.operands,Call.operands,hc];simpa using hmem)
   rw[hxx]at hv;have hu:=slcK hti hk;exact⟨.int .i64 0,by simp[execOp,ho,resolve,hc,invoke,builtin,Builtin.cap_,hT,hxe,RV_v hv,run_underlying hu,goInt],.d (.v _)⟩
  ·cases he
 ·rename_i es hxx;split at he
  ·rename_i E hk;cases he;rw[Eff.mw_nil];refine OpOk.pure fun a w σ I h hm=>?_;have hv:=zaz (σ:=σ) (I:=I) (w:=w) (tm:=tm) (a:=a) (x:=x) fun s e=>h s (by subst e;simp[ho,Op.operands,Call.operands,hc];simpa using hmem)
   rw[hxx]at hv;have hu:=slcK hti hk;have hxa:=hxe a;have:∃ad n,a.eval x=.slice ad n es.length:=by
    generalize a.eval x=u at hv;cases hv with
    |d hv=>
     cases hv with
     |nil=>exact⟨_,_,rfl⟩
     |emp=>exact⟨_,_,rfl⟩
     |ro _ _ _ _ _ hfc _ _ _=>rw[hfc rfl];exact⟨_,_,rfl⟩
   obtain⟨ad,n,he'⟩:=this;rw[he']at hxa;exact⟨.int .i64 es.length,by simp[execOp,ho,resolve,hc,invoke,builtin,Builtin.cap_,hT,hxa,run_underlying hu,goInt],.d (.v _)⟩
  ·cases he
 ·cases he
def taE (assertsIface:Bool)(T:TypeId)(te:TI)(ok:Bool):AV→Option (Prop×Eff)
 |.ifc t x=>if assertsIface=false∧te.za=te.agg then
   if t=T then some (True,⟨if ok then .tup [x,.d (.v (.bool true))]else x,[],[]⟩)
   else if ok then some (True,⟨.tup [vA te.agg (te.zero.map D.v),.d (.v (.bool false))],[],[]⟩)else none
  else none
 |.d (.ifc t x)=>if assertsIface=false∧te.za=te.agg then
   if t=T then some (True,⟨if ok then .tup [.d x,.d (.v (.bool true))]else .d x,[],[]⟩)
   else if ok then some (True,⟨.tup [vA te.agg (te.zero.map D.v),.d (.v (.bool false))],[],[]⟩)else none
  else none
 |_=>none
theorem ztu {P:Program}{o:Oper}{S T:TypeId}{x:Operand}{ok:Bool}(ho:o.op=.typeAssert x S T ok)(tm:Nat→AV)(mem:Mem)(nm:Nat){te:TI}(hT:tiOf P T=some te){ai:Bool}(hai:ai=false→∀b,te.k≠ .iface b){sc:Prop}{e:Eff}
  (he:taE ai T te ok (ev tm x)=some (sc,e)):OpOk P o tm (e.mr mem) nm e.res (e.mw mem):=by
 obtain⟨i,d,z,hi,hd,hz,hti⟩:=zah hT;have tupR:∀{σ:Names} {I:Nat→Prop} {w:World} {r:AV} {v:Value} {b:Bool},RV σ I w r v→RV σ I w (.tup [r,.d (.v (.bool b))]) (.tuple #[v,.bool b]):=by
  intro σ I w r v b h;refine .tup (xs:=[v,.bool b]) rfl (fun i c y h1 h2=>?_)
  match i,h1,h2 with
  |0,h1,h2=>simp at h1 h2;subst h1;subst h2;exact h
  |1,h1,h2=>simp at h1 h2;subst h1;subst h2;exact .d (.v _)
  |i+2,h1,h2=>simp at h1
 have hz':∀{σ:Names} {I:Nat→Prop} {w:World},RV σ I w (vA te.agg (te.zero.map D.v)) (mk te.agg te.zero):=by
  intro σ I w;refine qoe (by simp) (fun j c x h1 h2=>?_);rw[List.getElem?_map,h2]at h1;cases h1;exact .v _
 have yes:∀{w:World} (t:TypeId) (v:Value),ai=false→t=T→(Instr.typeAssert (.iface t v) S T ok).run P w=.ok (if ok then .tuple #[v,.bool true]else v) w:=by
  intro w t v h1 h2;have hne:=hai h1;rw[hti]at hne;simp only[Instr.typeAssert,Sem.run_bind,run_underlying hd,Result.andThen_ok];cases d<;>first| (exact absurd rfl (hne _))| (cases ok<;>simp[h2])
 have no:∀{w:World} (t:TypeId) (v:Value),ai=false→te.za=te.agg→t≠T→ok=true→(Instr.typeAssert (.iface t v) S T ok).run P w=.ok (.tuple #[mk te.agg te.zero,.bool false]) w:=by
  intro w t v h1 h3 h2 h4;have hne:=hai h1;have hzm:=zsz (w:=w) hT h3;rw[hti]at hne;simp only[Instr.typeAssert,Sem.run_bind,run_underlying hd,Result.andThen_ok];cases d<;>first| (exact absurd rfl (hne _))| (simp[h2,h4,hzm])
 have main:∀(t:TypeId) (r:AV),(if ai=false∧te.za=te.agg then
   if t=T then some (True,(⟨if ok then .tup [r,.d (.v (.bool true))]else r,[],[]⟩:Eff))
   else if ok then some (True,⟨.tup [vA te.agg (te.zero.map D.v),.d (.v (.bool false))],[],[]⟩)else none
  else none)=some (sc,e)→(∀{a:Act} {w:World} {σ:Names} {I:Nat→Prop},RV σ I w (ev tm x) (a.eval x)→∃v,a.eval x=.iface t v∧RV σ I w r v)→OpOk P o tm (e.mr mem) nm e.res (e.mw mem):=by
  intro t r he hr;split at he
  ·rename_i hc;split at he
   ·rename_i hte;cases he;rw[Eff.mw_nil];refine OpOk.pure fun a w σ I h hm=>?_;obtain⟨v,hv1,hv2⟩:=hr (zaz (σ:=σ) (I:=I) (w:=w) (tm:=tm) (a:=a) (x:=x) fun s e=>h s (by simp[ho,Op.operands,e]));refine⟨_,by simp only[execOp,ho,hv1,Sem.run_bind,yes t v hc.1 hte,Result.andThen_ok];rfl,?_⟩;cases ok with
    |true=>exact tupR hv2
    |false=>exact hv2
   ·rename_i hte;split at he
    ·rename_i hok;cases he;rw[Eff.mw_nil];refine OpOk.pure fun a w σ I h hm=>?_;obtain⟨v,hv1,hv2⟩:=hr (zaz (σ:=σ) (I:=I) (w:=w) (tm:=tm) (a:=a) (x:=x) fun s e=>h s (by simp[ho,Op.operands,e]));exact⟨_,by simp only[execOp,ho,hv1,Sem.run_bind,no t v hc.1 hc.2 hte hok,Result.andThen_ok];rfl,tupR hz'⟩
    ·cases he
  ·cases he
 unfold taE at he;split at he
 ·rename_i t r hx;refine main t r he (fun{a w σ I} hv=>?_);rw[hx]at hv;generalize a.eval x=u at hv;cases hv with
  |ifc h=>exact⟨_,rfl,h⟩
 ·rename_i t r hx;refine main t (.d r) he (fun{a w σ I} hv=>?_);rw[hx]at hv;generalize a.eval x=u at hv;cases hv with
  |d hv=>cases hv with
   |ifc h=>exact⟨_,rfl,.d h⟩
 ·cases he
def zji (te:TI)(E:TypeId)(nm:Nat):AV→AV→Option (Prop×Eff)
 |.d (.v (.int _ n)),.d (.v (.int _ m))=>if te.zero.length=te.sz then
   some (0≤n∧n≤m∧m*te.bytes≤281474976710656∧m≤9223372036854775807,⟨.own nm,[],[(nm,some (.grow te.sz (List.replicate n.toNat (te.zero.map D.v)) E))]⟩)else none
 |_,_=>none
theorem zke {P:Program}{w:World}{t e:TypeId}{i:TypeInfo}{z:Value}(ht:P.underlying t=some (.slice e))(hi:P.info? e=some i)(hz:i.zero=some z){k1 k2:IntKind}{n m:Int}(c1:0≤n)(c2:n≤m)(c3:m*i.bytes≤281474976710656)(c4:m≤9223372036854775807):
  (Instr.makeSlice t (.int k1 n) (.int k2 m)).run P w=.ok (.slice (some ⟨w.heap.size,0,none⟩) n.toNat m.toNat) (w.alloc (.cells ((Array.range (m.toNat*i.size)).map (z.cells[· %z.cells.size]!)) e (0,0))):=by
 have hwn:IntKind.i64.wrap n=n:=IntWalk.i64_in n ⟨by omega,by omega⟩;have hwm:IntKind.i64.wrap m=m:=IntWalk.i64_in m ⟨by omega,by omega⟩;have h1:¬m<0:=by omega
 have h2:¬((281474976710656:Int)<i.bytes*m):=by rw[Int.mul_comm];omega
 have h3:¬n<0:=by omega
 have h4:¬m<n:=by omega
 by_cases h0:m.toNat*i.size=0
 ·have e0:(Array.range (m.toNat*i.size)).map (z.cells[· %z.cells.size]!)=#[]:=by rw[h0];simp
  rw[e0];simp[Instr.makeSlice,run_underlying ht,asInt,asIntOf,typeInfo,hi,hwn,hwm,h1,h2,h3,h4,sizeOf,h0,newRow];congr 2
  all_goals first|rfl| (apply Array.ext';simp)
 ·simp[Instr.makeSlice,run_underlying ht,asInt,asIntOf,typeInfo,hi,hwn,hwm,h1,h2,h3,h4,sizeOf,h0,zeroValue,hz,newRow]
theorem zwp {P:Program}{o:Oper}{T:TypeId}{l c:Operand}(ho:o.op=.makeSlice T l c)(tm:Nat→AV)(mem:Mem)(nm:Nat){ti te:TI}{E:TypeId}(hT:tiOf P T=some ti)(hk:ti.k=.slc E)(hE:tiOf P E=some te)(hone:∀x∈te.zero,x.oneCell'=true){sc:Prop}{e:Eff}
  (he:zji te E nm (ev tm l) (ev tm c)=some (sc,e)) (hsc:sc):OpOk P o tm (e.mr mem) nm e.res (e.mw mem):=by
 unfold zji at he;split at he
 case h_2=>cases he
 rename_i k1 n k2 m hl hc;split at he
 case isFalse=>cases he
 rename_i hzl;cases he;obtain⟨c1,c2,c3,c4⟩:=hsc;refine OpOk.val fun a w σ I hib h hm hfree=>?_;have hu:=slcK hT hk;obtain⟨i,d,z,hi,hd,hz,hte⟩:=zah hE;have hvl:=zaz (σ:=σ) (I:=I) (w:=w) (tm:=tm) (a:=a) (x:=l) fun s e=>h s (by simp[ho,Op.operands,e])
 have hvc:=zaz (σ:=σ) (I:=I) (w:=w) (tm:=tm) (a:=a) (x:=c) fun s e=>h s (by simp[ho,Op.operands,e])
 rw[hl]at hvl;rw[hc]at hvc;have el:=RV_v hvl;have ec:=RV_v hvc;have hsz:i.size=te.sz:=by rw[hte]
 have hby:i.bytes=te.bytes:=by rw[hte]
 have hzz:te.zero=z.cells.toList:=by rw[hte]
 have hzc:z.cells.size=te.sz:=by rw[←hzl,hzz];simp
 have hzero:(zeroValue E).run P w=.ok z w:=by simp[zeroValue,typeInfo,hi,hz]
 have hwn:IntKind.i64.wrap n=n:=IntWalk.i64_in n ⟨by omega,by omega⟩;have hwm:IntKind.i64.wrap m=m:=IntWalk.i64_in m ⟨by omega,by omega⟩;have hrun:=zke (P:=P) (w:=w) hu hi hz (k1:=k1) (k2:=k2) c1 c2 (by rw[hby];exact c3) c4;rw[hsz]at hrun;have hzt:=zik m.toNat te.sz z.cells hzc;have hfr:σ nm=none:=hfree nm ⟨Nat.le_refl _,by omega⟩;have hlenA:((Array.range (m.toNat*te.sz)).map (z.cells[· %z.cells.size]!)).size=m.toNat*te.sz:=by simp
 have hcell:∀(i:Nat) e (j:Nat) c,(List.replicate n.toNat (te.zero.map D.v))[i]? =some e→e[j]? =some c→∃x,((Array.range (m.toNat*te.sz)).map (z.cells[· %z.cells.size]!)).toList[i*te.sz+j]? =some x∧RD I w c x∧x.oneCell'=true:=by
  intro i e j c he hcc;have hi':i<n.toNat:=by have:=(List.getElem?_eq_some_iff.1 he).1;simpa using this
  rw[List.getElem?_replicate_of_lt hi']at he;cases he;rw[List.getElem?_map]at hcc;cases hx:te.zero[j]? with
  |none=>simp[hx]at hcc
  |some x=>
   simp[hx]at hcc;subst hcc;have hj:j<te.sz:=by rw[←hzl];exact(List.getElem?_eq_some_iff.1 hx).1
   refine⟨x,?_,.v x,hone x (List.mem_of_getElem? hx)⟩;have hlt:i*te.sz+j<m.toNat*te.sz:=by
    have:(i+1)*te.sz≤m.toNat*te.sz:=Nat.mul_le_mul_right _ (by omega);rw[Nat.add_mul,Nat.one_mul]at this;omega
   have hmod:(i*te.sz+j)%te.sz=j:=by
    rw[Nat.mul_comm,Nat.mul_add_mod];exact Nat.mod_eq_of_lt hj
   have hzx:z.cells[j]? =some x:=by rw[hzz]at hx;simpa using hx
   have hzb:z.cells[j]! =x:=by rw[Array.getElem!_eq_getD,Array.getD_eq_getD_getElem?,hzx];rfl
   rw[Array.getElem?_toList,Array.getElem?_map];have:(Array.range (m.toNat*te.sz))[i*te.sz+j]? =some (i*te.sz+j):=by simp[hlt]
   rw[this];simp only[Option.map_some,hzc,hmod,hzb]
 refine⟨.slice (some ⟨w.heap.size,0,none⟩) n.toNat m.toNat,w.alloc (.cells ((Array.range (m.toNat*te.sz)).map (z.cells[· %z.cells.size]!)) E (0,0)),upd σ nm (.slice (some ⟨w.heap.size,0,none⟩) n.toNat m.toNat),I,?_,?_,.own (by simp[upd]) rfl⟩
 ·simp only[execOp,ho,Sem.run_bind,el,ec,hrun,Result.andThen_ok];rfl
 ·refine Post.swap (k:=.grow te.sz (List.replicate n.toNat (te.zero.map D.v)) E) none hib hm hfr rfl rfl ⟨rfl,Nat.le_refl _⟩ (by simp) (fun j hj _=>heap_alloc_old w _ hj) (fun σ' _=>?_) (fun q hn=>?_) (fun c q hq=>.inl (Eff.mw_none c q hq))
  ·have:=zeh (σ:=σ') (I:=I) (w:=w.alloc (.cells ((Array.range (m.toNat*te.sz)).map (z.cells[· %z.cells.size]!)) E (0,0))) (sz:=te.sz) (es:=List.replicate n.toNat (te.zero.map D.v)) (T:=E) (cap:=m.toNat) (vals:=((Array.range (m.toNat*te.sz)).map (z.cells[· %z.cells.size]!)).toList) (heap_alloc_new w _) (by simp;omega) (by simp[maxLen];omega) (by rw[hlenA];exact Nat.le_refl _)
    (fun e he=>by rw[List.eq_of_mem_replicate he];simp[hzl]) (fun q u h=>by rw[←Array.getElem?_toList];exact h)
    (fun i e j c he hcc=>let⟨x,p1,p2,p3⟩:=hcell i e j c he hcc;⟨x,p1,p2.mono (fun n hn=>heap_alloc_old w _ (hib n hn)) (fun _ h=>h),p3⟩)
   rwa[List.length_replicate]at this
  ·rcases Nat.eq_zero_or_pos m.toNat with h0|h0
   ·rw[h0]at hn;cases hn
   ·rw[zc6 h0]at hn;cases hn;exact .inr ⟨Nat.le_refl _,by simp⟩
def qck (te:TI)(mem:Mem):AV→Option (Prop×Eff)
 |.sl b z i len=>match mem b with
  |some (.grow z' es T)=>if z=te.sz∧z'=te.sz∧te.zero.length=te.sz then
    some (i+len≤es.length,⟨.d (.v (.tuple #[])),[],[(b,some (.grow te.sz (es.take i++List.replicate len (te.zero.map D.v)++es.drop (i+len)) T))]⟩)else none
  |_=>none
 |_=>none
theorem qet {res:AV}{b:Nat}{k k':Blk}{mem:Mem}(hb:mem b=some k)(e:k'=k):(Eff.mk res [] [(b,some k')]).mw mem=(Eff.mk res [] [(b,some k')]).mr mem:=by
 subst e;funext c
 rw[Eff.mw_single];show(if c=b then some k' else none)=_;by_cases h:c=b
 ·subst h;rw[if_pos rfl,Eff.mr_of hb (.inr (by simp[zat]))]
 ·rw[if_neg h];simp[Eff.mr,zat,Ne.symm h]
theorem ql9 {P:Program}{o:Oper}{c:Call}(ho:o.op=.call c)(hc:c.callee=.builtin .clear)(tm:Nat→AV)(mem:Mem)(nm:Nat){T E:TypeId}(hT:c.argTypes[0]? =some T){ti te:TI}(hti:tiOf P T=some ti)(hk:ti.k=.slc E)(hE:tiOf P E=some te)
  (hone:∀x∈te.zero,x.oneCell'=true) {x:Operand} (hx:c.args[0]? =some x) {sc:Prop} {e:Eff} (he:qck te mem (ev tm x)=some (sc,e)) (hsc:sc):OpOk P o tm (e.mr mem) nm e.res (e.mw mem):=by
 have hmem:x∈c.args.toList:=by
  rw[←Array.getElem?_toList]at hx;exact List.mem_of_getElem? hx
 have hxe:∀a:Act,(c.args.map a.eval)[0]? =some (a.eval x):=fun a=>by simp[hx]
 unfold qck at he;split at he
 case h_2=>cases he
 rename_i b z i len hxx;split at he
 case h_2=>cases he
 rename_i z' es T' hb;split at he
 case isFalse=>cases he
 rename_i hcc;obtain⟨rfl,rfl,hzl⟩:=hcc;cases he;refine OpOk.val fun a w σ I hib h hm hfree=>?_;have hu:=slcK hti hk;obtain⟨inf,d,z,hi,hd,hz,hte⟩:=zah hE;have hv:=zaz (σ:=σ) (I:=I) (w:=w) (tm:=tm) (a:=a) (x:=x) fun s e=>h s (by subst e;simp[ho,Op.operands,Call.operands,hc];simpa using hmem)
 rw[hxx]at hv;have hsz:inf.size=te.sz:=by rw[hte]
 have hzz:te.zero=z.cells.toList:=by rw[hte]
 have hzc:z.cells.size=te.sz:=by rw[←hzl,hzz];simp
 have hzero:(zeroValue E).run P w=.ok z w:=by simp[zeroValue,typeInfo,hi,hz]
 obtain⟨y,hy,hrb,hyn⟩:=hm.blk b _ (Eff.mr_of hb (.inr (by simp[zat])));have hxa:=hxe a;have same:len=0→(∃ad cp,a.eval x=.slice ad 0 cp)→∃v w' σ' I',(execOp a.eval o).run P w=.ok (.value v) w'∧Post σ I w ((Eff.mk (.d (.v (.tuple #[]))) [] [(b,some (.grow te.sz (es.take i++List.replicate len (te.zero.map D.v)++es.drop (i+len)) T'))]).mr mem) nm σ' I' w'
   ((Eff.mk (.d (.v (.tuple #[]))) [] [(b,some (.grow te.sz (es.take i++List.replicate len (te.zero.map D.v)++es.drop (i+len)) T'))]).mw mem)∧RV σ' I' w' (.d (.v (.tuple #[]))) v:=by
  rintro h0 ⟨ad,cp,he⟩;refine⟨.tuple #[],w,σ,I,?_,?_,.d (.v _)⟩
  ·rw[he]at hxa;cases ad<;>simp[execOp,ho,resolve,hc,invoke,builtin,Builtin.clear_,hT,hxa,run_underlying hu]
  ·rw[qet hb (by subst h0;simp)];exact Post.refl hib hm
 rcases Nat.eq_zero_or_pos len with h0|h0
 ·refine same h0 ?_;generalize a.eval x=u at hv;subst h0;cases hv with
  |sl h hs=>
   cases hs with
   |nil=>exact⟨_,_,rfl⟩
   |none a=>exact⟨_,_,rfl⟩
   |some _ _=>exact⟨_,_,rfl⟩
 have hval:∃n len0 cap c,a.eval x=.slice (some ⟨n,i*te.sz,none⟩) len c∧y=.slice (some ⟨n,0,none⟩) len0 cap∧i+c≤cap∧len≤c:=by
  generalize a.eval x=u at hv;cases hv with
  |sl h hs=>
   rw[hy]at h;cases h;cases hs with
   |nil=>omega
   |none a=>omega
   |some h1 h2=>exact⟨_,_,_,_,rfl,rfl,h1,h2⟩
 obtain⟨n,len0,cap,c',hval,rfl,q1,q2⟩:=hval;obtain⟨arr,g1,g2,g3,g4,g5,g6,g7⟩:∃arr,w.heap[n]? =some (.cells arr T' (0,0))∧cap*te.sz≤arr.size∧es.length≤cap∧cap≤maxLen∧(∀e∈es,e.length=te.sz)∧
   (∀(i:Nat) e (j:Nat) c,es[i]? =some e→e[j]? =some c→∃x,arr[i*te.sz+j]? =some x∧RD I w c x∧x.oneCell'=true)∧len0=es.length:=by
  cases hrb with
  |emp _=>simp at hsc;omega
  |grow g1 g2 g3 g4 g5 g6=>exact⟨_,g1,g2,g3,g4,g5,g6,rfl⟩
 subst g7
 let vs:List Value:=(Builtin.zeroCells z.cells len).toList
 have hvl:vs.length=len*te.sz:=by simp[vs,Builtin.zeroCells,hzc]
 have hvx:∀q,q<len*te.sz→vs[q]? =some (z.cells[q%te.sz]!):=fun q hq=>by
  simp only[vs,Builtin.zeroCells,hzc,Array.getElem?_toList,Array.getElem?_map];have:(Array.range (len*te.sz))[q]? =some q:=by simp[hq]
  rw[this];rfl
 have hvone:∀v∈vs,v.oneCell'=true:=by
  intro v hv;obtain⟨q,hq⟩:=List.getElem?_of_mem hv;have hql:q<len*te.sz:=by rw[←hvl];exact(List.getElem?_eq_some_iff.1 hq).1
  rw[hvx q hql]at hq;cases hq;have hpos:0<te.sz:=by
   rcases Nat.eq_zero_or_pos te.sz with h|h
   ·rw[h]at hql;omega
   ·exact h
  have hlt:q%te.sz<z.cells.size:=by rw[hzc];exact Nat.mod_lt _ hpos
  refine hone _ ?_;rw[hzz,getElem!_pos z.cells _ hlt];simp
 have hb1:(i+len)*te.sz≤cap*te.sz:=Nat.mul_le_mul_right _ (by omega);rw[Nat.add_mul]at hb1;have hrun:=run_storeCells_at (P:=P) n (i*te.sz) T' vs 0 arr w g1 (by rw[hvl];omega) hvone;simp only[Nat.add_zero]at hrun;rw[hvl]at hrun;have hcap:0<cap:=by omega
 have hbn:AI.hb (Value.slice (some ⟨n,0,none⟩) es.length cap)=some n:=zc6 hcap;have hnI:¬I n:=(hyn n hbn).2
 let arr':Array Value:=(arr.toList.take (i*te.sz)++vs++arr.toList.drop (i*te.sz+len*te.sz)).toArray
 refine⟨.tuple #[],w.setRow n arr',σ,I,?_,?_,.d (.v _)⟩
 ·rw[hval]at hxa;have hne:len≠0:=by omega
  obtain⟨l,rfl⟩:∃l,len=l+1:=⟨len-1,by omega⟩;simp[execOp,ho,resolve,hc,invoke,builtin,Builtin.clear_,hT,hxa,run_underlying hu,hzero];simp only[vs]at hrun;rw[hrun];rfl
 ·refine Post.write (b:=b) (k':=.grow te.sz (es.take i++List.replicate len (te.zero.map D.v)++es.drop (i+len)) T') hib hm (Eff.mr_of hb (.inr (by simp[zat]))) hy hbn (fun j hj=>setRow_other w n j _ hj) (by simp) rfl rfl ⟨rfl,Nat.le_refl _⟩ ?_ zg6;have hel:(es.take i++List.replicate len (te.zero.map D.v)++es.drop (i+len)).length=es.length:=by simp;omega
  have hal:arr'.size=arr.size:=by simp[arr',hvl];omega
  have key:=RB.grow (σ:=σ) (I:=I) (w:=w.setRow n arr') (sz:=te.sz) (es:=es.take i++List.replicate len (te.zero.map D.v)++es.drop (i+len)) (T:=T') (n:=n) (cap:=cap) (setRow_heap w n arr _ T' _ g1) (by rw[hal];exact g2) (by rw[hel];exact g3) g4 ?_ ?_
  ·rw[hel]at key;exact key
  ·intro e he;simp only[List.mem_append]at he;rcases he with(he|he)|he
   ·exact g5 e (List.mem_of_mem_take he)
   ·rw[List.eq_of_mem_replicate he];simp[hzl]
   ·exact g5 e (List.mem_of_mem_drop he)
  ·intro k e j c k1 k2;have mono:∀{c y},RD I w c y→RD I (w.setRow n arr') c y:=fun h=>h.mono (fun j hj=>setRow_other w n j _ (fun e=>hnI (e▸hj))) (fun _ h=>h);have htk:(es.take i).length=i:=by simp;omega
   have hj:j<te.sz:=by
    have h1:=(List.getElem?_eq_some_iff.1 k2).1;have:e.length=te.sz:=by
     have he:=List.mem_of_getElem? k1;simp only[List.mem_append]at he;rcases he with(he|he)|he
     ·exact g5 e (List.mem_of_mem_take he)
     ·rw[List.eq_of_mem_replicate he];simp[hzl]
     ·exact g5 e (List.mem_of_mem_drop he)
    omega
   have hsl:(arr.toList.take (i*te.sz)).length=i*te.sz:=by simp;omega
   by_cases h1:k<i
   ·rw[List.append_assoc,List.getElem?_append_left (by omega),List.getElem?_take_of_lt h1]at k1;obtain⟨x,p1,p2,p3⟩:=g6 k e j c k1 k2;refine⟨x,?_,mono p2,p3⟩;have:(k+1)*te.sz≤i*te.sz:=Nat.mul_le_mul_right _ h1;rw[Nat.add_mul,Nat.one_mul]at this;rw[List.getElem?_toArray,List.append_assoc,List.getElem?_append_left (by omega),List.getElem?_take_of_lt (by omega)];simpa using p1
   ·by_cases h2:k<i+len
    ·rw[List.getElem?_append_left (by simp;omega),List.getElem?_append_right (by omega),htk,List.getElem?_replicate_of_lt (by omega)]at k1;cases k1;rw[List.getElem?_map]at k2;cases hx':te.zero[j]? with
     |none=>simp[hx']at k2
     |some x'=>
      simp[hx']at k2;subst k2;refine⟨x',?_,.v x',hone x' (List.mem_of_getElem? hx')⟩;have e1:k*te.sz+j=i*te.sz+((k-i)*te.sz+j):=by
       have:k*te.sz=i*te.sz+(k-i)*te.sz:=by rw[←Nat.add_mul];congr 1;omega
       omega
      have e2:(k-i)*te.sz+j<len*te.sz:=by
       have:(k-i+1)*te.sz≤len*te.sz:=Nat.mul_le_mul_right _ (by omega);rw[Nat.add_mul,Nat.one_mul]at this;omega
      rw[List.getElem?_toArray,e1,List.getElem?_append_left (by rw[List.length_append,hsl,hvl];omega),List.getElem?_append_right (by omega),hsl,Nat.add_sub_cancel_left,hvx _ e2];have hmod:((k-i)*te.sz+j)%te.sz=j:=by
       rw[Nat.mul_comm,Nat.mul_add_mod];exact Nat.mod_eq_of_lt hj
      have hzx:z.cells[j]? =some x':=by rw[hzz]at hx';simpa using hx'
      rw[hmod,Array.getElem!_eq_getD,Array.getD_eq_getD_getElem?,hzx];rfl
    ·have hrl:(es.take i++List.replicate len (te.zero.map D.v)).length=i+len:=by rw[List.length_append,htk];simp
     rw[List.getElem?_append_right (by omega),hrl,List.getElem?_drop,show i+len+(k-(i+len))=k by omega]at k1;obtain⟨x,p1,p2,p3⟩:=g6 k e j c k1 k2;refine⟨x,?_,mono p2,p3⟩;have hal2:(arr.toList.take (i*te.sz)++vs).length=i*te.sz+len*te.sz:=by rw[List.length_append,hsl,hvl]
     have:(i+len)*te.sz≤k*te.sz:=Nat.mul_le_mul_right _ (by omega);rw[Nat.add_mul]at this;rw[List.getElem?_toArray,List.getElem?_append_right (by omega),hal2,List.getElem?_drop,show i*te.sz+len*te.sz+(k*te.sz+j-(i*te.sz+len*te.sz))=k*te.sz+j by omega];simpa using p1
def zo5 (te:TI)(E:TypeId)(nm:Nat):AV→AV→Option (Prop×Eff)
 |.d (.v (.slice none 0 0)),.d (.v (.int .i64 n))=>if te.zero.length=te.sz∧0<te.sz then
   some (0<n∧n*te.bytes≤140737488355328∧n≤140737488355328,⟨.own nm,[],[(nm,some (.grow te.sz (List.replicate n.toNat (te.zero.map D.v)) E))]⟩)else none
 |_,_=>none
theorem zpv {P:Program}{w:World}{t u ty e:TypeId}{i:TypeInfo}{z:Value}(ht:P.underlying t=some (.slice e))(hu:P.underlying u=some (.int .i64))(hi:P.info? e=some i)(hz:i.zero=some z)(hs:0<i.size)
  {n:Int} (h0:0<n) (h1:n≤140737488355328) (hfit:Builtin.nextslicecap n.toNat 0*i.bytes≤281474976710656) (hb:n*i.bytes≤140737488355328):
  (Builtin.append_ #[t,u] ty #[.slice none 0 0,.int .i64 n]).run P w=
    .ok (.slice (some ⟨w.heap.size,0,none⟩) n.toNat (grownCap w n.toNat 0 e)) (w.drew.alloc (.cells (Builtin.zeroCells z.cells n.toNat++Builtin.zeroCells z.cells (grownCap w n.toNat 0 e-n.toNat)) e)):=by
 have hw:IntKind.i64.wrap n=n:=IntWalk.i64_in n ⟨by omega,by omega⟩;have c1:¬n<0:=by omega
 have c2:¬(281474976710656<n*(i.bytes:Int)):=by omega
 have c3:¬(9223372036854775807<n):=by omega
 have c4:¬(281474976710656<Builtin.nextslicecap n.toNat 0*i.bytes):=by omega
 have c5:n.toNat≠0:=by omega
 have c6:i.size≠0:=by omega
 have c7:((n.toNat:Nat):Int)=n:=by omega
 have c8:¬n≤0:=by omega
 have c9:¬(n=0):=by omega
 have c10:¬(9223372036854775807<max n 0):=by omega
 have c11:n.toNat*i.size≠0:=Nat.mul_ne_zero c5 c6;simp[Builtin.append_,run_underlying ht,run_underlying hu,sizeOf,typeInfo,zeroValue,hi,hz,asInt,asIntOf,hw,c1,c2,c3,c4,c5,c6,c7,c8,c9,c10,c11,Question.forced,Builtin.firstCells,newRow,grownCap]
theorem qwf {P:Program}{T:TypeId}{ti:TI}(hT:tiOf P T=some ti)(hk:ti.k=.int .i64):P.underlying T=some (.int .i64):=by
 obtain⟨i,d,z,hi,hd,hz,rfl⟩:=zah hT;rw[hd];simp only at hk;cases d<;>simp[kOf]at hk<;>simp[hk]
theorem qd0 {P:Program}{o:Oper}{c:Call}(ho:o.op=.call c)(hc:c.callee=.builtin .append)(tm:Nat→AV)(mem:Mem)(nm:Nat){T U:TypeId}(hT:c.argTypes=#[T,U]){x y:Operand}(hx:c.args=#[x,y])
  {ti te tu:TI} {E:TypeId} (hti:tiOf P T=some ti) (hk:ti.k=.slc E) (hE:tiOf P E=some te) (htu:tiOf P U=some tu) (hku:tu.k=.int .i64) (hone:∀x∈te.zero,x.oneCell'=true) {sc:Prop} {e:Eff}
  (he:zo5 te E nm (ev tm x) (ev tm y)=some (sc,e)) (hsc:sc):OpOk P o tm (e.mr mem) nm e.res (e.mw mem):=by
 unfold zo5 at he;split at he
 case h_2=>cases he
 rename_i n hl hn;split at he
 case isFalse=>cases he
 rename_i hzl;obtain⟨hzl,hpos⟩:=hzl;cases he;obtain⟨s1,s2,s3⟩:=hsc;refine OpOk.val fun a w σ I hib h hm hfree=>?_;have hu:=slcK hti hk;have huu:=qwf htu hku;obtain⟨i,d,z,hi,hd,hz,hte⟩:=zah hE;have hvl:=zaz (σ:=σ) (I:=I) (w:=w) (tm:=tm) (a:=a) (x:=x) fun s e=>h s (by subst e;simp[ho,Op.operands,Call.operands,hc,hx])
 have hvc:=zaz (σ:=σ) (I:=I) (w:=w) (tm:=tm) (a:=a) (x:=y) fun s e=>h s (by subst e;simp[ho,Op.operands,Call.operands,hc,hx])
 rw[hl]at hvl;rw[hn]at hvc;have el:=RV_v hvl;have ec:=RV_v hvc;have hsz:i.size=te.sz:=by rw[hte]
 have hby:i.bytes=te.bytes:=by rw[hte]
 have hzz:te.zero=z.cells.toList:=by rw[hte]
 have hzc:z.cells.size=te.sz:=by rw[←hzl,hzz];simp
 have hnn:((n.toNat:Nat):Int)=n:=by omega
 have hb':n.toNat*i.bytes≤140737488355328:=by
  have:((n.toNat*i.bytes:Nat):Int)≤140737488355328:=by rw[Int.natCast_mul,hnn,hby];exact s2
  omega
 have hrun:=zpv (P:=P) (w:=w) (t:=T) (u:=U) (ty:=o.type) hu huu hi hz (by omega) s1 s3 (growslice_fits (by omega) hb') (by rw[hby];exact s2);have hfr:σ nm=none:=hfree nm ⟨Nat.le_refl _,by omega⟩;have hge:=grownCap_ge w n.toNat 0 E;have hmx:grownCap w n.toNat 0 E≤maxLen:=grownCap_le_maxLen w _ _ _ (by simp[maxLen];omega)
 let arr:Array Value:=Builtin.zeroCells z.cells n.toNat++Builtin.zeroCells z.cells (grownCap w n.toNat 0 E-n.toNat)
 have hal:arr.size=grownCap w n.toNat 0 E*te.sz:=by
  simp only[arr,Array.size_append,size_zeroCells,hzc];rw[←Nat.add_mul];congr 1;omega
 have hcell:∀(i:Nat) e (j:Nat) c,(List.replicate n.toNat (te.zero.map D.v))[i]? =some e→e[j]? =some c→∃x,(Builtin.zeroCells z.cells n.toNat).toList[i*te.sz+j]? =some x∧RD I w c x∧x.oneCell'=true:=by
  intro i e j c he hcc;have hi':i<n.toNat:=by have:=(List.getElem?_eq_some_iff.1 he).1;simpa using this
  rw[List.getElem?_replicate_of_lt hi']at he;cases he;rw[List.getElem?_map]at hcc;cases hx:te.zero[j]? with
  |none=>simp[hx]at hcc
  |some x=>
   simp[hx]at hcc;subst hcc;have hj:j<te.sz:=by rw[←hzl];exact(List.getElem?_eq_some_iff.1 hx).1
   refine⟨x,?_,.v x,hone x (List.mem_of_getElem? hx)⟩;have hlt:i*te.sz+j<n.toNat*te.sz:=by
    have:(i+1)*te.sz≤n.toNat*te.sz:=Nat.mul_le_mul_right _ (by omega);rw[Nat.add_mul,Nat.one_mul]at this;omega
   have hmod:(i*te.sz+j)%te.sz=j:=by
    rw[Nat.mul_comm,Nat.mul_add_mod];exact Nat.mod_eq_of_lt hj
   have hzx:z.cells[j]? =some x:=by rw[hzz]at hx;simpa using hx
   have hzb:z.cells[j]! =x:=by rw[Array.getElem!_eq_getD,Array.getD_eq_getD_getElem?,hzx];rfl
   simp only[Builtin.zeroCells,hzc];rw[Array.getElem?_toList,Array.getElem?_map];have:(Array.range (n.toNat*te.sz))[i*te.sz+j]? =some (i*te.sz+j):=by simp[hlt]
   rw[this];simp only[Option.map_some,hmod,hzb]
 refine⟨.slice (some ⟨w.heap.size,0,none⟩) n.toNat (grownCap w n.toNat 0 E),w.drew.alloc (.cells arr E (0,0)),upd σ nm (.slice (some ⟨w.heap.size,0,none⟩) n.toNat (grownCap w n.toNat 0 E)),I,?_,?_,.own (by simp[upd]) rfl⟩
 ·simp[execOp,ho,resolve,hc,invoke,builtin,hT,hx,el,ec,hrun];rfl
 ·refine Post.swap (k:=.grow te.sz (List.replicate n.toNat (te.zero.map D.v)) E) none hib hm hfr rfl rfl ⟨rfl,Nat.le_succ _⟩ (by simp) (fun j hj _=>heap_alloc_old w.drew _ hj) (fun σ' _=>?_) (fun q hn=>?_) (fun c q hq=>.inl (Eff.mw_none c q hq))
  ·have:=zeh (σ:=σ') (I:=I) (w:=w.drew.alloc (.cells arr E (0,0))) (sz:=te.sz) (es:=List.replicate n.toNat (te.zero.map D.v)) (T:=E) (cap:=grownCap w n.toNat 0 E) (vals:=(Builtin.zeroCells z.cells n.toNat).toList) (heap_alloc_new w.drew _) (by simp;omega) hmx (by rw[hal];exact Nat.le_refl _)
    (fun e he=>by rw[List.eq_of_mem_replicate he];simp[hzl]) (fun q u h=>by
      have hlt:=(List.getElem?_eq_some_iff.1 h).1;rw[Array.getElem?_append_left (by simpa using hlt)];simpa using h)
    (fun i e j c he hcc=>let⟨x,p1,p2,p3⟩:=hcell i e j c he hcc;⟨x,p1,RD.mono (w:=w) (w':=w.drew.alloc (.cells arr E (0,0))) (fun n hn=>heap_alloc_old w.drew _ (hib n hn)) (fun _ h=>h) p2,p3⟩)
   rwa[List.length_replicate]at this
  ·rw[zc6 (by omega)]at hn;cases hn;exact .inr ⟨Nat.le_refl _,by simp⟩
def prA (kp:Nat→Bool)(mm:Nat→Option Blk):Nat→AV→AV
 |0,a=>a
 |n+1,a=>match a with
  |.own b=>if kp b then .own b else match mm b with
   |some (.grow _ es _)=>.d (.ro false es)
   |some (.map ka ks va look)=>.d (.mp ka ks va look)
   |_=>.own b
  |.sl b sz i len=>if kp b then .sl b sz i len else match mm b with
   |some (.grow z es _)=>if z=sz∧i+len≤es.length then .d (.ro false ((es.drop i).take len))else .sl b sz i len
   |_=>.sl b sz i len
  |.ptr b off=>if kp b then .ptr b off else match mm b with
   |some (.cells cs _)=>match toDs (cs.map (prA kp mm n))with
    |some ds=>if(cs.map (prA kp mm n)).all oneA=true then .d (.pro (ds.drop off))else .ptr b off
    |none=>.ptr b off
   |_=>.ptr b off
  |.agg cs=>.agg (cs.map (prA kp mm n))
  |.tup cs=>.tup (cs.map (prA kp mm n))
  |.fn f x y=>match toDs (x.map (prA kp mm n)),toDs (y.map (prA kp mm n))with
   |some x',some y'=>.d (.fn f x' y')
   |_,_=>.fn f (x.map (prA kp mm n)) (y.map (prA kp mm n))
  |.ifc t x=>match toD (prA kp mm n x)with
   |some d=>.d (.ifc t d)
   |none=>.ifc t (prA kp mm n x)
  |a=>a
section
variable {kp : Nat → Bool} {mm : Nat → Option Blk} {n : Nat}
@[simp] theorem prA_d (x:D):prA kp mm (n+1) (.d x)=.d x:=rfl
@[simp] theorem prA_any :prA kp mm (n+1) .any=.any:=rfl
@[simp] theorem prA_ab :prA kp mm (n+1) .ab=.ab:=rfl
@[simp] theorem prA_prow (b sz i off:Nat):prA kp mm (n+1) (.prow b sz i off)=.prow b sz i off:=rfl
@[simp] theorem qrf (b:Nat):prA kp mm (n+1) (.own b)=if kp b then .own b else match mm b with
    |some (.grow _ es _)=>.d (.ro false es)
    |some (.map ka ks va look)=>.d (.mp ka ks va look)
    |_=>.own b:=rfl
@[simp] theorem qvc (b sz i len:Nat):prA kp mm (n+1) (.sl b sz i len)=if kp b then .sl b sz i len else match mm b with
    |some (.grow z es _)=>if z=sz∧i+len≤es.length then .d (.ro false ((es.drop i).take len))else .sl b sz i len
    |_=>.sl b sz i len:=rfl
@[simp] theorem qre (b off:Nat):prA kp mm (n+1) (.ptr b off)=if kp b then .ptr b off else match mm b with
    |some (.cells cs _)=>match toDs (cs.map (prA kp mm n))with
     |some ds=>if(cs.map (prA kp mm n)).all oneA=true then .d (.pro (ds.drop off))else .ptr b off
     |none=>.ptr b off
    |_=>.ptr b off:=rfl
@[simp] theorem qrh (cs:List AV):prA kp mm (n+1) (.agg cs)=.agg (cs.map (prA kp mm n)):=rfl
@[simp] theorem qrd (cs:List AV):prA kp mm (n+1) (.tup cs)=.tup (cs.map (prA kp mm n)):=rfl
@[simp] theorem qvd (f:Fn)(x y:List AV):prA kp mm (n+1) (.fn f x y)=match toDs (x.map (prA kp mm n)),toDs (y.map (prA kp mm n))with
    |some x',some y'=>.d (.fn f x' y')
    |_,_=>.fn f (x.map (prA kp mm n)) (y.map (prA kp mm n)):=rfl
@[simp] theorem qrg (t:TypeId)(x:AV):prA kp mm (n+1) (.ifc t x)=match toD (prA kp mm n x)with
    |some d=>.d (.ifc t d)
    |none=>.ifc t (prA kp mm n x):=rfl
end
def zii (σ:Names)(I:Nat→Prop)(mm:Mem)(kp:Nat→Bool)(n:Nat):Prop:=I n∨∃b,kp b=false∧zu3 σ mm (some b) n
theorem qxs {x:AV}{d:D}(h:toD x=some d):x=.d d:=by
 unfold toD at h;split at h
 ·cases h
 ·cases h;rfl
 ·cases h
theorem zla {σ:Names}{I:Nat→Prop}{w:World}{mm:Mem}{kp:Nat→Bool}(hm:RM σ I w mm):∀(n:Nat) {a:AV} {v:Value},RV σ I w a v→RV σ (zii σ I mm kp) w (prA kp mm n a) v:=by
 have hII:∀n,I n→zii σ I mm kp n:=fun n h=>.inl h;have mono:∀{a:AV} {v:Value},RV σ I w a v→RV σ (zii σ I mm kp) w a v:=fun h=>h.mono (fun _ _=>rfl) hII (fun _ _ h=>h);have monoD:∀{a:D} {v:Value},RD I w a v→RD (zii σ I mm kp) w a v:=fun h=>h.mono (fun _ _=>rfl) hII;intro n;induction n with
 |zero=>intro a v h;exact mono h
 |succ n ih=>
  have lst:∀{cs:List AV} {xs:List Value},(∀(i:Nat) c x,cs[i]? =some c→xs[i]? =some x→RV σ I w c x)→∀(i:Nat) c x,(cs.map (prA kp mm n))[i]? =some c→xs[i]? =some x→RV σ (zii σ I mm kp) w c x:=by
   intro cs xs h i c x h1 h2;simp only[List.getElem?_map]at h1;obtain⟨c',hc',rfl⟩:=Option.map_eq_some_iff.1 h1;exact ih (h i c' x hc' h2)
  have lstD:∀{cs:List AV} {ds:List D} {xs:List Value},toDs (cs.map (prA kp mm n))=some ds→(∀(i:Nat) c x,cs[i]? =some c→xs[i]? =some x→RV σ I w c x)→∀(i:Nat) c x,ds[i]? =some c→xs[i]? =some x→RD (zii σ I mm kp) w c x:=by
   intro cs ds xs hd h i c x h1 h2;have:=lst h i (.d c) x (by rw[zcg hd];simp[h1]) h2;exact RV_D this
  intro a v h;cases h with
  |d h=>exact .d (monoD h)
  |any=>exact .any _
  |ab t=>exact .ab t
  |prow h=>exact .prow h
  | @own b _ hb h1=>
    simp only[prA];split
    ·exact .own hb h1
    ·rename_i hk;have hk:kp b=false:=by simpa using hk
     split
     ·rename_i z es T hbm;obtain⟨x,hx,hrb⟩:=hm.grow hbm;rw[hb]at hx;cases hx;rcases hrb with⟨rfl,rfl⟩|⟨ad,rfl,rfl⟩|⟨m,cap,arr,rfl,g1,g2,g3,g4,g5,g6⟩
      ·exact .d .nil
      ·exact .d .emp
      ·rcases Nat.eq_zero_or_pos cap with h0|h0
       ·subst h0;have:es=[]:=List.eq_nil_of_length_eq_zero (by omega);subst this;exact .d .emp
       ·refine .d (.ro (sz:=z) (fun i j=>arr.getD (i*z+j) undef) (.inr ⟨b,hk,b,_,_,rfl,hbm,hb,zc6 h0⟩) g5 g3 g4 (fun h=>by cases h) (fun i e j c he hc=>?_) (fun i e j c he hc=>?_) (fun i e j c he hc=>?_))
        ·obtain⟨q,hq,_⟩:=g6 i e j c he hc;rw[zc0 g1,Nat.zero_add];simp[hq]
        ·obtain⟨q,hq,hr,_⟩:=g6 i e j c he hc;simpa[hq]using monoD hr
        ·obtain⟨q,hq,_,ho⟩:=g6 i e j c he hc;simpa[hq]using ho
     ·rename_i ka ks va look hbm;obtain⟨x,hx,hrb,_⟩:=hm.blk b _ hbm;rw[hb]at hx;cases hx;cases hrb with
      |map keys vals hw _ hk' hu hl hv=>exact .d (.mp keys vals (.inr ⟨b,hk,b,_,_,rfl,hbm,hb,rfl⟩) hw hk' hu hl (fun i d j c x a1 a2 a3 a4=>monoD (hv i d j c x a1 a2 a3 a4)))
     ·exact .own hb h1
  | @sl b sz i len y v hb hs=>
    simp only[prA];split
    ·exact .sl hb hs
    ·rename_i hk;have hk:kp b=false:=by simpa using hk
     split
     ·rename_i z es T hbm;split
      ·rename_i hc;obtain⟨rfl,hle⟩:=hc;obtain⟨ad,c,val,hl⟩:=zzp hm hbm hle (RV.sl hb hs);cases hs with
       |nil=>
        simp only[List.take_zero];exact .d .nil
       |none a=>simp only[List.take_zero];exact .d .emp
       | @some m L cap i' l c' hcc hll=>
         rcases Nat.eq_zero_or_pos c' with h0|h0
         ·subst h0;have:len=0:=by omega
          subst this;simp only[List.take_zero];exact .d .emp
         ·have hlv:=hl.v;simp only[Value.slice.injEq]at hlv;obtain⟨rfl,hlen,rfl⟩:=hlv;have key:RV σ (zii σ I mm kp) w (.d (.ro false ((es.drop i).take len))) (.slice (some ⟨m,i*z,none⟩) ((es.drop i).take len).length c'):=.d (.ro (sz:=z) (fc:=false) val (.inr ⟨b,hk,b,_,_,rfl,hbm,hb,zc6 (by omega)⟩) hl.len hl.cap hl.max (fun h=>by cases h) (fun q e j x he hx=>(hl.cell _ rfl q e j x he hx).2) (fun q e j x he hx=>monoD (hl.rd q e j x he hx)) (fun q e j x he hx=>hl.one q e j x he hx));rw[←hlen]at key;exact key
      ·exact .sl hb hs
     ·exact .sl hb hs
  | @ptr b off m hb=>
    simp only[prA];split
    ·exact .ptr hb
    ·rename_i hk;have hk:kp b=false:=by simpa using hk
     split
     ·rename_i cs T hbm;split
      ·rename_i ds hds;split
       ·rename_i hone;obtain⟨m',arr,g1,g2,g3,g4⟩:=hm.cells hbm;rw[hb]at g1;cases g1;have hlen:ds.length=cs.length:=by have:=congrArg List.length (zcg hds);simpa using this.symm
        have hc:=fun(j:Nat) c (h:(ds.drop off)[j]? =some c)=>by
         have h':ds[off+j]? =some c:=by rwa[List.getElem?_drop]at h
         have hlt:off+j<arr.size:=by rw[g3,←hlen];exact(List.getElem?_eq_some_iff.1 h').1
         have e1:arr.toList[off+j]? =some (arr.getD (off+j) undef):=by simp[hlt]
         exact(show w.cell? ⟨m,off+j,none⟩=some (arr.getD (off+j) undef)∧RD (zii σ I mm kp) w c (arr.getD (off+j) undef)∧(arr.getD (off+j) undef).oneCell'=true from by
          refine⟨by rw[zc0 g2];simpa using e1,?_,?_⟩
          ·exact lstD hds (fun i c x h1 h2=>g4 i c x h1 (by simpa using h2)) (off+j) c _ h' e1
          ·have hh:=lst (cs:=cs) (xs:=arr.toList) (fun i c x h1 h2=>g4 i c x h1 (by simpa using h2)) (off+j) (.d c) _ (by rw[zcg hds];simp[h']) e1;exact zle hh (List.all_eq_true.1 hone _ (List.mem_of_getElem? (i:=off+j) (by rw[zcg hds];simp[h']))))
        exact .d (.pro (fun j=>arr.getD (off+j) undef) (.inr ⟨b,hk,b,_,_,rfl,hbm,hb,rfl⟩) (fun j c h=>(hc j c h).1) (fun j c h=>(hc j c h).2.1) (fun j c h=>(hc j c h).2.2))
       ·exact .ptr hb
      ·exact .ptr hb
     ·exact .ptr hb
  |agg hl hr=>
   simp only[prA];exact .agg (by simpa using hl) (lst hr)
  |tup hl hr=>
   simp only[prA];exact .tup (by simpa using hl) (lst hr)
  |fn hx hy h1 h2=>
   simp only[prA];split
   ·rename_i x' y' e1 e2;have l1:=congrArg List.length (zcg e1);have l2:=congrArg List.length (zcg e2);simp at l1 l2;exact .d (.fn (by omega) (by omega) (lstD e1 h1) (lstD e2 h2))
   ·exact .fn (by simpa using hx) (by simpa using hy) (lst h1) (lst h2)
  |ifc h=>
   simp only[prA];split
   ·rename_i d hd;have:=ih h;rw[qxs hd]at this;exact .d (.ifc (RV_D this))
   ·exact .ifc (ih h)
theorem qhg {kp:Nat→Bool}{mm mm':Nat→Option Blk}(h:∀b,kp b=false→mm b=mm' b):∀(n:Nat) (a:AV),prA kp mm n a=prA kp mm' n a:=by
 intro n;induction n with
 |zero=>intro a;rfl
 |succ n ih=>
  have hf:prA kp mm n=prA kp mm' n:=funext ih;intro a;cases a with
  |own b=>
   simp only[qrf];cases hb:kp b
   ·rw[h b hb]
   ·rfl
  |sl b sz i len=>
   simp only[qvc];cases hb:kp b
   ·rw[h b hb]
   ·rfl
  |ptr b off=>
   simp only[qre];cases hb:kp b
   ·rw[h b hb,hf]
   ·rfl
  |agg cs=>simp only[qrh,hf]
  |tup cs=>simp only[qrd,hf]
  |fn f x y=>simp only[qvd,hf]
  |ifc t x=>simp only[qrg,ih]
  |_=>rfl
def gvB (gv:List Nat)(mem:Mem):Mem:=fun b=>if gv.contains b then none else mem b
theorem zil (l r:List (Nat×Option Blk))(b:Nat):zat (l++r) b=match zat l b with|some k=>some k|none=>zat r b:=by
 induction l with
 |nil=>rfl
 |cons p l ih=>
  obtain⟨c,k⟩:=p;simp only[List.cons_append,zat];split
  ·rfl
  ·exact ih
theorem qal (gv:List Nat)(b:Nat):zat (gv.map fun c=>(c,(none:Option Blk))) b=if gv.contains b then some none else none:=by
 induction gv with
 |nil=>rfl
 |cons c l ih=>
  simp only[List.map_cons,zat,ih];by_cases e:c=b
  ·simp[e]
  ·simp[e,Ne.symm e]
theorem OpOk.give {P:Program}{o:Oper}{tm:Nat→AV}{mem:Mem}{nm:Nat}(gv:List Nat){e:Eff}(hgv:∀b,b∈gv→(mem b).isSome=true)
  (h:OpOk P o (fun t=>prA (fun b=>!gv.contains b) mem 8 (tm t)) (e.mr (gvB gv mem)) nm e.res (e.mw (gvB gv mem))):
  OpOk P o tm ((Eff.mk e.res e.rd (e.wr++gv.map fun b=>(b,none))).mr mem) nm e.res ((Eff.mk e.res e.rd (e.wr++gv.map fun b=>(b,none))).mw mem):=by
 intro a w σ I h1 h2 h3 h4 next Q hn
 let kp:Nat→Bool:=fun b=>!gv.contains b
 let m2:Mem:=(Eff.mk e.res e.rd (e.wr++gv.map fun b=>(b,none))).mr mem
 have hm2:∀b,kp b=false→mem b=m2 b:=by
  intro b hb;have hc:gv.contains b=true:=by simpa[kp]using hb
  have hw:(zat (e.wr++gv.map fun b=>(b,none)) b).isSome=true:=by
   rw[zil,qal,hc];cases zat e.wr b<;>rfl
  simp only[m2,Eff.mr,hw,true_or,if_true]
 have sub:∀b k,e.mr (gvB gv mem) b=some k→m2 b=some k∧gv.contains b=false:=by
  intro b k hk;simp only[Eff.mr]at hk;split at hk
  ·rename_i hc;simp only[gvB]at hk;split at hk
   ·cases hk
   ·rename_i hg;refine⟨?_,by simpa using hg⟩;simp only[m2,Eff.mr];rw[if_pos ?_]
    ·exact hk
    ·rcases hc with hc|hc
     ·left;rw[zil];obtain⟨q,hq⟩:=Option.isSome_iff_exists.1 hc;rw[hq];simp
     ·exact .inr hc
  ·cases hk
 have hib:∀n,zii σ I m2 kp n→n<w.heap.size:=by
  intro n hn;rcases hn with hn|⟨b,_,c,k,y,hc,hk,hy,e⟩
  ·exact h1 n hn
  ·obtain⟨y',hy',_,hh⟩:=h3.blk c k hk;rw[hy]at hy';cases hy';exact(hh n e).1
 have own2:∀n,Owns σ (e.mr (gvB gv mem)) n→Owns σ m2 n:=by
  rintro n ⟨b,k,x,hb,hx,e⟩;exact⟨b,k,x,(sub b k hb).1,hx,e⟩
 have hrm:RM σ (zii σ I m2 kp) w (e.mr (gvB gv mem)):=by
  refine⟨fun b k hb=>?_,fun b b' k k' x x' n hb hb' hx hx' q q'=>h3.apart b b' k k' x x' n (sub b k hb).1 (sub b' k' hb').1 hx hx' q q'⟩;obtain⟨hb2,hbg⟩:=sub b k hb;obtain⟨x,hx,hrb,hh⟩:=h3.blk b k hb2;refine⟨x,hx,hrb.mono (fun _ _=>rfl) (fun n h=>.inl h) (fun _ _ h=>h) (fun _ _=>rfl),fun n hn=>⟨(hh n hn).1,?_⟩⟩;rintro(hI|⟨c,hc,d,k',y,hd,hk',hy,q⟩)
  ·exact(hh n hn).2 hI
  ·cases hd;have:=h3.apart b c k k' x y n hb2 hk' hx hy hn q;subst this;simp only[kp]at hc;rw[hbg]at hc;cases hc
 refine h a w σ (zii σ I m2 kp) hib (fun t ht=>?_) hrm h4 next Q (fun v σ' I' w' hp hv=>hn v σ' I' w' ?_ hv)
 ·have:=zla (kp:=kp) h3 8 (h2 t ht)
  rwa[←qhg (mm:=mem) (mm':=m2) hm2]at this
 ·have hmw:∀c q,(Eff.mk e.res e.rd (e.wr++gv.map fun b=>(b,none))).mw mem c=some q→e.mw (gvB gv mem) c=some q:=by
   intro c q hq;simp only[Eff.mw,zil,qal]at hq;simp only[Eff.mw];cases hw:zat e.wr c with
   |some o=>rw[hw]at hq;exact hq
   |none=>
    rw[hw]at hq;simp only at hq⊢;cases hc:gv.contains c with
    |true=>rw[hc]at hq;simp at hq
    |false=>
     rw[hc]at hq;simp only[gvB,hc];simpa using hq
  have ownsMw:∀n,Owns σ' ((Eff.mk e.res e.rd (e.wr++gv.map fun b=>(b,none))).mw mem) n→Owns σ' (e.mw (gvB gv mem)) n:=by
   rintro n ⟨b,k,x,hb,hx,q⟩;exact⟨b,k,x,hmw b k hb,hx,q⟩
  refine⟨hp.os,hp.tape,hp.output,hp.size,hp.names,hp.new,fun n hn=>hp.imono n (.inl hn),hp.ib,fun n hn=>?_,fun n hn hno=>hp.frame n hn (fun ho=>hno (own2 n ho)),⟨fun b k hb=>hp.mem.blk b k (hmw b k hb),fun b b' k k' x x' n hb hb'=>hp.mem.apart b b' k k' x x' n (hmw b k hb) (hmw b' k' hb')⟩,fun c q hq=>?_,fun n ho=>?_⟩
  ·rcases hp.inew n hn with(g|⟨b,_,c,k,y,hc,hk,hy,q⟩)|g|g
   ·exact .inl g
   ·exact .inr (.inr ⟨c,k,y,hk,hy,q⟩)
   ·exact .inr (.inl g)
   ·exact .inr (.inr (own2 n g))
  ·rcases hp.dom c q (hmw c q hq)with g|g
   ·left;obtain⟨k,hk⟩:=Option.ne_none_iff_exists'.1 g;show m2 c≠none;rw[(sub c k hk).1];simp
   ·exact .inr g
  ·rcases hp.mine n (ownsMw n ho)with g|g
   ·exact .inl (own2 n g)
   ·exact .inr g
noncomputable def qch (te:TI)(ka:Bool)(ks:List CK)(mem:Mem)(nm:Nat)(m key:AV):Option (Prop×Eff):=
 match m,keyVals key with
 |.own b,some kc=>match mem b with
  |some (.map ka' ks' va look)=>if ka'=ka∧ks'=ks∧zi2 key=ka∧va=te.agg∧te.za=te.agg then
    some (zc3 ks kc=true∧look kc=none,⟨.tup [vA te.agg (te.zero.map D.v),.own nm],[],[(b,some (.mapO ka ks va look kc nm))]⟩)else none
  |_=>none
 |_,_=>none
noncomputable def zs6 (mem:Mem)(m s x:AV):Option (Prop×Eff):=
 match m,s,(cellsOf x).bind toDs with
 |.own b,.own c',some ds=>match mem b with
  |some (.mapO ka ks va look kc c)=>if zi2 x=va∧c=c' then some (True,⟨.d (.v undef),[],[(b,some (.map ka ks va (updL look kc ds)))]⟩)else none
  |_=>none
 |_,_,_=>none
theorem Post.open {σ:Names}{I:Nat→Prop}{w w':World}{m:Mem}{nm b:Nat}{x v:Value}{k k':Blk}{n:Nat}(hib:∀n,I n→n<w.heap.size)(hm:RM σ I w m)
  (hb1:m b=some k) (hx:σ b=some x) (hn:hb x=some n) (hfr:σ nm=none) (ho:∀j,j≠n→w'.heap[j]? =w.heap[j]?) (hs:w'.heap.size=w.heap.size)
  (h1:w'.os=w.os) (h2:w'.tape=w.tape) (h3:SameOut w' w) (hk:RB (upd σ nm v) I w' k' x) {m':Mem} (hm':∀c q,m' c=some q→c=b∧q=k'):
  Post σ I w m nm (upd σ nm v) I w' m':=by
 have hne:b≠nm:=by rintro rfl;rw[hx]at hfr;cases hfr
 have hub:upd σ nm v b=some x:=by simp[upd,hne,hx]
 obtain⟨y,hy,_,hyn⟩:=hm.blk b k hb1;rw[hx]at hy;cases hy;have hnn:=hyn n hn;refine⟨h1,h2,h3,by omega,fun c y hc=>?_,fun c hc hc'=>?_,fun _ h=>h,fun j hj=>by rw[hs];exact hib j hj,fun _ h=>.inl h,fun j hj hno=>ho j (fun e=>hno ⟨b,k,x,hb1,hx,by rw[hn,e]⟩),⟨fun c q hq=>?_,fun c c' q q' z z' j a1 a2 _ _ _ _=>?_⟩,fun c q hq=>?_,fun j hj=>?_⟩
 ·have:c≠nm:=by rintro rfl;rw[hc]at hfr;cases hfr
  simp[upd,this,hc]
 ·by_cases e:c=nm
  ·subst e;exact⟨Nat.le_refl _,by omega⟩
  ·simp[upd,e,hc]at hc'
 ·obtain⟨rfl,rfl⟩:=hm' c q hq;exact⟨x,hub,hk,fun j hj=>by rw[hs];exact hyn j hj⟩
 ·rw[(hm' c q a1).1,(hm' c' q' a2).1]
 ·rw[(hm' c q hq).1];exact .inl (by rw[hb1];simp)
 ·obtain⟨c,q,z,a1,a2,a3⟩:=hj;obtain⟨rfl,rfl⟩:=hm' c q a1;rw[hub]at a2;cases a2;exact .inl ⟨c,k,x,hb1,hx,a3⟩
theorem qgm (I:Nat→Prop)(w:World){kc:List Value}{keys:Nat→List Value}{look:List Value→Option (List D)}{ka va:Bool}{ks:List CK}{vals:Nat→List Value}{es:Array MapEntry}
  (g1:∀(i:Nat) e,es[i]? =some e→e.key=mk ka (keys i)∧e.val=mk va (vals i)∧zc3 ks (keys i)=true∧∃d,look (keys i)=some d∧d.length=(vals i).length)
  (g3:∀k d,look k=some d→∃i,i<es.size∧keys i=k) (h:look kc=none):seek kc keys es.size 0=none:=by
 rcases InMap.seek (I:=I) (w:=w) g1 g3 kc with⟨i,_,_,_,d,h1,_⟩|⟨h1,_⟩
 ·rw[h]at h1;cases h1
 ·exact h1
theorem ql8 {P:Program}{o:Oper}{T:TypeId}{m key:Operand}(ho:o.op=.mapEntry T m key)(tm:Nat→AV)(mem:Mem)(nm:Nat){ti:TI}(hT:tiOf P T=some ti){K E:TypeId}(hk:ti.k=.map K E){te:TI}(hE:tiOf P E=some te){ka:Bool}{ks:List CK}(hK:zxh P K ka ks){sc:Prop}{e:Eff}
  (he:qch te ka ks mem nm (ev tm m) (ev tm key)=some (sc,e)) (hsc:sc):OpOk P o tm (e.mr mem) nm e.res (e.mw mem):=by
 unfold qch at he;split at he
 case h_2=>cases he
 rename_i b kc hm0 hkc;split at he
 case h_2=>cases he
 rename_i ka' ks' va look hb;split at he
 case isFalse=>cases he
 rename_i hc;obtain⟨rfl,rfl,c3,rfl,c5⟩:=hc;cases he;obtain⟨s1,s2⟩:=hsc;have hu:=mapK hT hk;refine OpOk.val fun a w σ I h1 h h3 hfree=>?_;have hfr:σ nm=none:=hfree nm ⟨Nat.le_refl _,by omega⟩;have hvk:=zgo hkc (zaz (σ:=σ) (I:=I) (w:=w) (tm:=tm) (a:=a) (x:=key) fun s e=>h s (by simp[ho,Op.operands,e]));rw[c3]at hvk;have hvm:=zaz (σ:=σ) (I:=I) (w:=w) (tm:=tm) (a:=a) (x:=m) fun s e=>h s (by simp[ho,Op.operands,e])
 rw[hm0]at hvm;have hmr:=Eff.mr_of (e:=⟨.tup [vA te.agg (te.zero.map D.v),.own nm],[],[(b,some (.mapO ka' ks' te.agg look kc nm))]⟩) hb (.inr (by simp[zat]));obtain⟨y,hy,hrb,hyn⟩:=h3.blk b _ hmr;generalize hev:a.eval m=u at hvm;cases hvm with
 |own h' _=>
  rw[hy]at h';cases h';cases hrb with
  | @map _ _ _ _ n clock es keys vals hw g0 g1 g2 g3 g4=>
    have hck:=zk3 (w:=w) hK s1 false;have hfk:=zhu (w:=w) hK s1 (keys:=keys) (es:=es) (fun j e h=>⟨(g1 j e h).1,(g1 j e h).2.2.1⟩);have hg:(getObj n).run P w=.ok (.map es clock) w:=by simp[getObj,Sem.run,hw]
    have hs:=qgm I w g1 g3 s2;have hlt:=(Array.getElem?_eq_some_iff.1 hw).1;have hzr:(zeroValue E).run P w=.ok (mk te.agg te.zero) w:=zsz hE c5;refine⟨.tuple #[mk te.agg te.zero,.int .i64 clock],{w with heap:=w.heap.setIfInBounds n (.map (es.push {key:=mk ka' kc,val:=mk te.agg te.zero,born:=clock}) (clock+1))},upd σ nm (.int .i64 clock),I,?_,?_,?_⟩
    ·simp only[execOp,ho,Sem.run_bind];rw[hev,hvk];simp only[Instr.mapEntry,Sem.run_bind,run_underlying hu,Result.andThen_ok,hg,hck,hfk,hs,Option.map_none,hzr];simp[setObj,Sem.run,hw,goInt]
    ·refine Post.open (w':={w with heap:=w.heap.setIfInBounds n (.map (es.push {key:=mk ka' kc,val:=mk te.agg te.zero,born:=clock}) (clock+1))}) (v:=.int .i64 (clock:Int)) (k':=.mapO ka' ks' te.agg look kc nm) (b:=b) (n:=n) h1 h3 hmr hy rfl hfr (fun j hj=>by simp[Array.getElem?_setIfInBounds_ne (Ne.symm hj)]) (by simp) rfl rfl ⟨rfl,Nat.le_refl _⟩ ?_ (fun c q hq=>?_)
     ·refine .mapO (z:=mk te.agg te.zero) keys vals (by simp[hlt]) (by simp[upd]) g0 s2 s1 g1 g2 g3 (fun i d j c x q1 q2 q3 q4=>?_);have hnI:¬I n:=(hyn n rfl).2;exact(g4 i d j c x q1 q2 q3 q4).mono (fun k hk=>by simp[Array.getElem?_setIfInBounds_ne (show n≠k from fun e=>hnI (e▸hk))]) (fun _ h=>h)
     ·rw[Eff.mw_single]at hq;by_cases e:c=b
      ·simp[e]at hq;exact⟨e,hq.symm⟩
      ·simp[e]at hq
    ·refine .tup (xs:=[mk te.agg te.zero,.int .i64 clock]) rfl (fun i c x h4 h5=>?_)
     match i,h4,h5 with
     |0,h4,h5=>
      simp at h4 h5;subst h4;subst h5;refine qoe (by simp) (fun j c x h6 h7=>?_);rw[List.getElem?_map,h7]at h6;cases h6;exact .v _
     |1,h4,h5=>simp at h4 h5;subst h4;subst h5;exact .own (by simp[upd]) rfl
     |i+2,h4,h5=>simp at h4
theorem ztw {P:Program}{o:Oper}{T:TypeId}{m s x:Operand}(ho:o.op=.entryStore T m s x)(tm:Nat→AV)(mem:Mem)(nm:Nat){sc:Prop}{e:Eff}
  (he:zs6 mem (ev tm m) (ev tm s) (ev tm x)=some (sc,e)):OpOk P o tm (e.mr mem) nm e.res (e.mw mem):=by
 unfold zs6 at he;split at he
 case h_2=>cases he
 rename_i b c' ds hm0 hs0 hds;split at he
 case h_2=>cases he
 rename_i ka ks va look kc c hb;split at he
 case isFalse=>cases he
 rename_i hc;obtain⟨c4,rfl⟩:=hc;cases he;refine OpOk.skip fun a w σ I h1 h h3 _=>?_;have hvm:=zaz (σ:=σ) (I:=I) (w:=w) (tm:=tm) (a:=a) (x:=m) fun s e=>h s (by simp[ho,Op.operands,e])
 have hvs:=zaz (σ:=σ) (I:=I) (w:=w) (tm:=tm) (a:=a) (x:=s) fun s e=>h s (by simp[ho,Op.operands,e])
 have hvx:=zaz (σ:=σ) (I:=I) (w:=w) (tm:=tm) (a:=a) (x:=x) fun s e=>h s (by simp[ho,Op.operands,e])
 rw[hm0]at hvm;rw[hs0]at hvs;obtain⟨cl,hcl,hds'⟩:=Option.bind_eq_some_iff.1 hds;obtain⟨v1,v2⟩:=zjr hvx hcl;have hcd:=zcg hds';subst hcd;have hvmk:a.eval x=mk va (a.eval x).cells.toList:=by rw[←c4];exact qoj hvx hcl
 have hmr:=Eff.mr_of (e:=⟨.d (.v undef),[],[(b,some (.map ka ks va (updL look kc ds)))]⟩) hb (.inr (by simp[zat]));obtain⟨y,hy,hrb,hyn⟩:=h3.blk b _ hmr;generalize hev:a.eval m=u at hvm;cases hvm with
 |own h' _=>
  rw[hy]at h';cases h';cases hrb with
  | @mapO _ _ _ _ _ _ n clock z es keys vals hw hst g0 hkc hfk g1 g2 g3 g4=>
    have hes:a.eval s=.int .i64 clock:=by
     generalize a.eval s=us at hvs;cases hvs with
     |own h6 _=>rw[hst]at h6;cases h6;rfl
    have hnI:¬I n:=(hyn n rfl).2;have hlt:=(Array.getElem?_eq_some_iff.1 hw).1;have hg:(getObj n).run P w=.ok (.map (es.push {key:=mk ka kc,val:=z,born:=clock}) (clock+1)) w:=by simp[getObj,Sem.run,hw]
    have hfi:(es.push {key:=mk ka kc,val:=z,born:=clock}).findIdx? (fun e=>(e.born:Int)==(clock:Int))=some es.size:=by
     rw[Array.findIdx?_eq_some_iff_getElem];refine⟨by simp,by simp,fun j hj=>?_⟩;have hj':j<es.size:=hj;rw[Array.getElem_push_lt hj'];have:=g0 j es[j] (Array.getElem?_eq_getElem hj');simp;omega
    let ob:Obj:=.map (es.push {key:=mk ka kc,val:=mk va (a.eval x).cells.toList,born:=clock}) (clock+1)
    have hmod:((es.push {key:=mk ka kc,val:=z,born:=clock}).modify es.size fun e=>{e with val:=mk va (a.eval x).cells.toList})=es.push {key:=mk ka kc,val:=mk va (a.eval x).cells.toList,born:=clock}:=by
     apply Array.ext_getElem?;intro j;rw[Array.getElem?_modify,Array.getElem?_push,Array.getElem?_push];by_cases e1:j=es.size
     ·subst e1;simp
     ·simp[e1,Ne.symm e1]
    have hrun:(Instr.entryStore T (.map (some n)) (a.eval s) (a.eval x)).run P w=.ok () {w with heap:=w.heap.setIfInBounds n ob}:=by
     rw[hes];have ha:(asInt (.int .i64 (clock:Int))).run P w=.ok (clock:Int) w:=rfl;simp only[Instr.entryStore,Sem.run_bind,hg,Result.andThen_ok,ha,hfi];rw[hvmk,hmod];simp[setObj,Sem.run,hw,ob]
    have g4':∀(i:Nat) d (j:Nat) c x,i<es.size→look (keys i)=some d→d[j]? =some c→(vals i)[j]? =some x→RD I {w with heap:=w.heap.setIfInBounds n ob} c x:=fun i d j c x q1 q2 q3 q4=>
     (g4 i d j c x q1 q2 q3 q4).mono (fun k hk=>by simp[Array.getElem?_setIfInBounds_ne (show n≠k from fun e=>hnI (e▸hk))]) (fun _ h=>h)
    have hr':∀(j:Nat) c x',ds[j]? =some c→(a.eval x).cells.toList[j]? =some x'→RD I {w with heap:=w.heap.setIfInBounds n ob} c x':=fun j c x' q1 q2=>by
     have:=v2 j (.d c) x' (by simp[q1]) (by simpa using q2);exact(RV_D this).mono (fun k hk=>by simp[Array.getElem?_setIfInBounds_ne (show n≠k from fun e=>hnI (e▸hk))]) (fun _ h=>h)
    refine⟨_,σ,I,by rw[execOp,ho];simp only[hev,Sem.run_bind,hrun,Result.andThen_ok];rfl,?_⟩;refine Post.write (w':={w with heap:=w.heap.setIfInBounds n ob}) (b:=b) h1 h3 hmr hy rfl (fun j hj=>?_) (by simp) rfl rfl ⟨rfl,Nat.le_refl _⟩ ?_ zg6
    ·simp[Array.getElem?_setIfInBounds_ne (Ne.symm hj)]
    ·exact(zqw (w:=w) (n:=n) (clock:=clock) g0 g1 g2 g3 g4' hfk (by simpa using v1.symm) hr').2 (qgm I w g1 g3 hkc) (by simp[hlt,ob])
theorem zgg (l:List (Nat×Option Blk))(b:Nat):(zat l b).isSome=true↔b∈l.map (·.1):=by
 induction l with
 |nil=>simp[zat]
 |cons p l ih=>
  obtain⟨c,k⟩:=p;simp only[zat,List.map_cons,List.mem_cons];by_cases h:c=b
  ·simp[h]
  ·simp[h,ih,Ne.symm h]
theorem zqp {a b:List Nat}(h:disj a b=true){x:Nat}(hx:x∈a):x∉b:=by
 simp only[disj,List.all_eq_true]at h;have:=h x hx;simpa using this
theorem zzl {o:Oper}{t:Nat}(h:Operand.tmp t∈o.op.operands):t∈zzb o:=by
 simp only[zzb,List.mem_filterMap];exact⟨.tmp t,by simpa using h,rfl⟩
theorem zw8 {ops:Array Oper}{o:Oper}{t:Nat}(h:zzn ops o t):t∈zt9 ops o:=by
 rcases h with h|⟨g,wa,p,h1,h2,h3⟩
 ·exact List.mem_append.2 (.inl (zzl h))
 ·refine List.mem_append.2 (.inr ?_);simp[h1,h2,h3]
theorem qh2 {ops:Array Oper}{x y:Oper}(h:qse ops x y=false):
  (∀d,x.dst=some d→y.dst≠some d∧¬zzn ops y d)∧(∀d,y.dst=some d→¬zzn ops x d):=by
 simp only[qse,Bool.or_eq_false_iff]at h;obtain⟨h1,h2⟩:=h;refine⟨fun d hd=>?_,fun d hd hl=>?_⟩
 ·simp only[hd,Bool.or_eq_false_iff]at h1;refine⟨fun e=>?_,fun hl=>?_⟩
  ·simp[e]at h1
  ·have:=zw8 hl;simp[this]at h1
 ·simp only[hd]at h2;have:=zw8 hl;simp[this]at h2
theorem zxx {ops:Array Oper}{pre:List (List Nat)}(h:zsk ops pre=true):qvb ops (fun j=>pre.getD j []):=by
 intro j o ho;have hj:j<ops.size:=(Array.getElem?_eq_some_iff.1 ho).1;simp only[zsk,List.all_eq_true,List.mem_range]at h;have:=h j hj;simp only[ho,Bool.and_eq_true,List.all_eq_true,decide_eq_true_eq,List.any_eq_true]at this;obtain⟨⟨h1,h2⟩,_⟩:=this;have medge:∀e,e∈zm2 o↔∃ed∈o.after,Region.binds .any ed=true∧ed.on=e:=by
  intro e;simp only[zm2,List.mem_filterMap];constructor
  ·rintro⟨ed,hed,he⟩;split at he
   ·rename_i hb;cases he;exact⟨ed,by simpa using hed,hb,rfl⟩
   ·cases he
  ·rintro⟨ed,hed,hb,rfl⟩;exact⟨ed,by simpa using hed,by simp[hb]⟩
 refine⟨fun e he hb=>h1 e.on ((medge _).2 ⟨e,he,hb,rfl⟩),fun i hi=>?_⟩;obtain⟨e,he,hor⟩:=h2 i hi;obtain⟨ed,hed,hb,rfl⟩:=(medge e).1 he;refine⟨ed,hed,hb,?_⟩;simpa using hor
theorem qem {ops:Array Oper}{pre:List (List Nat)}(h:zsk ops pre=true){tr:List Eff}(hl:tr.length=ops.size)(hf:qcb pre (tr.map Eff.foot)=true):
  ∀i j,i<j→j<ops.size→i∈(fun j=>pre.getD j []) j∨qfb ops (fun i=>tr.getD i ⟨.any,[],[]⟩) i j:=by
 intro i j hij hj;simp only[zsk,List.all_eq_true,List.mem_range]at h;have h1:=h j hj;simp only[qcb,List.all_eq_true,List.mem_range,List.length_map,hl]at hf;have h2:=hf j hj i hij;have hoj:ops[j]? =some ops[j]:=Array.getElem?_eq_getElem hj;have hoi:ops[i]? =some ops[i]:=Array.getElem?_eq_getElem (by omega);simp only[hoj,Bool.and_eq_true,List.all_eq_true,List.mem_range]at h1;have h3:=h1.2 i hij;simp only[hoi,Bool.or_eq_true,List.contains_iff_mem]at h3;simp only[Bool.or_eq_true,List.contains_iff_mem,Bool.and_eq_true]at h2;rcases h3 with h3|h3
 ·exact .inl h3
 rcases h2 with h2|h2
 ·exact .inl h2
 refine .inr ?_;have hn:=qh2 (ops:=ops) (x:=ops[i]) (y:=ops[j]) (by simpa using h3);have ei:(tr.map Eff.foot).getD i ([],[])=(tr.getD i ⟨.any,[],[]⟩).foot:=by
  simp[List.getD,List.getElem?_map,List.getElem?_eq_getElem (show i<tr.length by omega)]
 have ej:(tr.map Eff.foot).getD j ([],[])=(tr.getD j ⟨.any,[],[]⟩).foot:=by
  simp[List.getD,List.getElem?_map,List.getElem?_eq_getElem (show j<tr.length by omega)]
 rw[ei,ej]at h2;obtain⟨⟨q1,q2⟩,q3⟩:=h2;refine⟨fun d hd=>?_,fun d hd o ho=>?_,fun b hb=>?_,fun b hb=>?_⟩
 ·simp only[hoi,Option.bind_some]at hd;refine⟨by simpa[hoj]using(hn.1 d hd).1,fun o ho=>?_⟩;rw[hoj]at ho;cases ho;exact(hn.1 d hd).2
 ·simp only[hoj,Option.bind_some]at hd;rw[hoi]at ho;cases ho;exact hn.2 d hd
 ·have:=(zgg _ _).1 hb;refine⟨?_,zqp q1 this⟩;have hnot:=zqp q2 this;cases hw:zat (tr.getD j ⟨.any,[],[]⟩).wr b with
  |none=>rfl
  |some k=>exact absurd ((zgg _ _).1 (by rw[hw];rfl)) hnot
 ·exact zqp q3 ((zgg _ _).1 hb)
def qif (f:Fn)(a b:List AV):AV:=match toDs a,toDs b with
 |some x,some y=>.d (.fn f x y)
 |_,_=>.fn f a b
theorem qd2 {σ:Names}{I:Nat→Prop}{w:World}{f:Fn}{a b:List AV}{v:Value}(h:RV σ I w (.fn f a b) v):RV σ I w (qif f a b) v:=by
 unfold qif;split
 ·rename_i x y hx hy;have ex:=zcg hx;have ey:=zcg hy;subst ex;subst ey;cases h with
  |fn l1 l2 h1 h2=>
   refine .d (.fn (by simpa using l1) (by simpa using l2) (fun i c u k1 k2=>?_) (fun i c u k1 k2=>?_))
   ·cases h1 i (.d c) u (by simp[k1]) k2 with
    |d h=>exact h
   ·cases h2 i (.d c) u (by simp[k1]) k2 with
    |d h=>exact h
 ·exact h
theorem qrt {P:Program}{o:Oper}{f:Fn}{first captured:Array Operand}(ho:o.op=.makeFunc f first captured)(tm:Nat→AV)(m:Mem)(nm:Nat):
  OpOk P o tm m nm (qif f (first.toList.map (ev tm)) (captured.toList.map (ev tm))) m:=
 fun a w σ I h1 h2 h3 h4 next Q hn=>zzd ho tm m nm a w σ I h1 h2 h3 h4 next Q (fun v σ' I' w' hp hv=>hn v σ' I' w' hp (qd2 hv))
def qki (P:Program)(o:Oper)(tm:Nat→AV)(mem:Mem)(nm:Nat):Option Eff:=
 match o.op with
 |.move x=>some ⟨ev tm x,[],[]⟩
 |.assign x=>some ⟨ev tm x,[],[]⟩
 |.pick c x y=>match ev tm c with
  |.d (.v (.bool t))=>some ⟨ztr t (ev tm x) (ev tm y),[],[]⟩
  |_=>none
 |.alloc T=>match tiOf P T with
  |some ti=>some ⟨.ptr nm 0,[],[(nm,some (.cells (ti.zero.map fun v=>.d (.v v)) T))]⟩
  |none=>none
 |.box T x=>match cellsOf (ev tm x)with
  |some cs=>some ⟨.ptr nm 0,[],[(nm,some (.cells cs T))]⟩
  |none=>none
 |.load T x=>match tiOf P T with
  |some ti=>zua ti.agg ti.sz mem (ev tm x)
  |none=>none
 |.store T a x=>match tiOf P T with
  |some ti=>qat ti.sz mem (ev tm x) (ev tm a)
  |none=>none
 |.binOp op T x y _=>match tiOf P T with
  |some ti=>match binA op ti (ev tm x) (ev tm y)with
   |some r=>some ⟨r,[],[]⟩
   |none=>none
  |none=>none
 |.unOp op _ x=>match unA op (ev tm x)with
  |some r=>some ⟨r,[],[]⟩
  |none=>none
 |.fieldAddr T x f=>match tiOf P T with
  |some ti=>match zox P ti f with
   |some off=>match faA off (ev tm x)with
    |some r=>some ⟨r,[],[]⟩
    |none=>none
   |none=>none
  |none=>none
 |.field T x f=>match tiOf P T with
  |some ti=>match ti.k with
   |.strct fs=>match fs[f]? with
    |some (off,t,_)=>match tiOf P t,aggL (ev tm x)with
     |some tf,some cs=>match zjw tf.agg tf.sz off cs with
      |some r=>some ⟨r,[],[]⟩
      |none=>none
     |_,_=>none
    |none=>none
   |_=>none
  |none=>none
 |.indexAddr T x i=>match tiOf P T with
  |some ti=>match ti.k with
   |.arr n E=>match tiOf P E with
    |some te=>iaA (.arr n E) te.sz mem (ev tm x) (ev tm i)
    |none=>none
   |.slc E=>match tiOf P E with
    |some te=>iaA (.slc E) te.sz mem (ev tm x) (ev tm i)
    |none=>none
   |_=>none
  |none=>none
 |.index T x i=>match tiOf P T with
  |some ti=>match ti.k with
   |.arr n E=>match tiOf P E with
    |some te=>match zly n te.agg te.sz (ev tm x) (ev tm i)with
     |some r=>some ⟨r,[],[]⟩
     |none=>none
    |none=>none
   |.str=>match zlx (ev tm x) (ev tm i)with
    |some r=>some ⟨r,[],[]⟩
    |none=>none
   |_=>none
  |none=>none
 |.extract x i=>match ev tm x with
  |.tup vs=>match vs[i]? with
   |some r=>some ⟨r,[],[]⟩
   |none=>none
  |_=>none
 |.build T parts=>match tiOf P T with
  |some ti=>if qb0 P ti.k=true then match qcp P ti (parts.toList.map fun p=>(p.1,ev tm p.2))with
    |some r=>some ⟨r,[],[]⟩
    |none=>none
   else none
  |none=>none
 |.nilCheck x=>if qrz (ev tm x)=true then some ⟨ev tm x,[],[]⟩else none
 |.makeInterface T x=>match tiOf P T with
  |some ti=>if qnq ti.k=true then some ⟨mkiA T (ev tm x),[],[]⟩else none
  |none=>none
 |.makeFunc f first captured=>some ⟨qif f (first.toList.map (ev tm)) (captured.toList.map (ev tm)),[],[]⟩
 |.call c=>match c.callee with
  |.builtin .min=>match minA (c.args.toList.map (ev tm))with
   |some r=>some ⟨r,[],[]⟩
   |none=>none
  |.builtin .max=>match maxA (c.args.toList.map (ev tm))with
   |some r=>some ⟨r,[],[]⟩
   |none=>none
  |.builtin .len=>match c.argTypes[0]?,c.args[0]? with
   |some T,some x=>match tiOf P T with
    |some ti=>lenE ti.k mem (ev tm x)
    |none=>none
   |_,_=>none
  |_=>none
 |_=>none
theorem Eff.pure_mem {r:AV}{m:Mem}:(Eff.mk r [] []).mr m=(fun _=>none)∧(Eff.mk r [] []).mw m=fun _=>none:=by
 constructor<;>(funext b;simp[Eff.mr,Eff.mw,zat])
theorem OpOk.of_pure {P:Program}{o:Oper}{tm:Nat→AV}{mem:Mem}{nm:Nat}{r:AV}(h:OpOk P o tm (fun _=>none) nm r (fun _=>none)):
  OpOk P o tm ((Eff.mk r [] []).mr mem) nm r ((Eff.mk r [] []).mw mem):=by
 rw[Eff.pure_mem.1,Eff.pure_mem.2];exact h
theorem qai {P:Program}{o:Oper}{tm:Nat→AV}{mem:Mem}{nm:Nat}{e:Eff}(h:qki P o tm mem nm=some e):OpOk P o tm (e.mr mem) nm e.res (e.mw mem):=by
 unfold qki at h;split at h
 ·cases h;exact .of_pure (qht (.inl ‹_›) tm _ nm)
 ·cases h;exact .of_pure (qht (.inr ‹_›) tm _ nm)
 ·split at h
  ·cases h;exact .of_pure (qrr ‹_› tm _ nm ‹_›)
  ·cases h
 ·split at h
  ·cases h;exact qmc ‹_› tm mem nm ‹_›
  ·cases h
 ·split at h
  ·cases h;exact qvq ‹_› tm mem nm ‹_›
  ·cases h
 ·split at h
  ·exact qhv ‹_› tm mem nm ‹_› h
  ·cases h
 ·split at h
  ·exact ok_store ‹_› tm mem nm ‹_› h
  ·cases h
 ·split at h
  ·split at h
   ·cases h;exact .of_pure (qvr ‹_› tm _ nm ‹_› ‹_›)
   ·cases h
  ·cases h
 ·split at h
  ·cases h;exact .of_pure (qx5 ‹_› tm _ nm ‹_›)
  ·cases h
 ·split at h
  ·split at h
   ·split at h
    ·cases h;exact .of_pure (zwr ‹_› tm _ nm ‹_› ‹_› ‹_›)
    ·cases h
   ·cases h
  ·cases h
 ·split at h
  ·split at h
   ·split at h
    ·split at h
     ·split at h
      ·cases h;exact .of_pure (ql7 ‹_› tm _ nm ‹_› ‹_› ‹_› ‹_› ‹_› ‹_›)
      ·cases h
     ·cases h
    ·cases h
   ·cases h
  ·cases h
 ·split at h
  ·split at h
   ·split at h
    ·rename_i n E hk _ _ _;exact zix ‹_› tm mem nm ‹_› (.inl ⟨_,hk⟩) ‹_› (by rw[hk];exact h)
    ·cases h
   ·split at h
    ·rename_i E hk _ _ _;exact zix ‹_› tm mem nm ‹_› (.inr hk) ‹_› (by rw[hk];exact h)
    ·cases h
   ·cases h
  ·cases h
 ·split at h
  ·split at h
   ·split at h
    ·split at h
     ·cases h;exact .of_pure (zzf ‹_› tm _ nm ‹_› ‹_› ‹_› ‹_›)
     ·cases h
    ·cases h
   ·split at h
    ·cases h;exact .of_pure (zze ‹_› tm _ nm ‹_› ‹_› ‹_›)
    ·cases h
   ·cases h
  ·cases h
 ·split at h
  ·split at h
   ·cases h;exact .of_pure (qdy ‹_› tm _ nm ‹_› ‹_›)
   ·cases h
  ·cases h
 ·split at h
  ·split at h
   ·split at h
    ·cases h;exact .of_pure (qmb ‹_› tm _ nm ‹_› ‹_› ‹_›)
    ·cases h
   ·cases h
  ·cases h
 ·split at h
  ·cases h;exact .of_pure (zzc ‹_› tm _ nm ‹_›)
  ·cases h
 ·split at h
  ·split at h
   ·cases h;exact .of_pure (zn9 ‹_› tm _ nm ‹_› ‹_›)
   ·cases h
  ·cases h
 ·cases h;exact .of_pure (qrt ‹_› tm _ nm)
 ·split at h
  ·split at h
   ·cases h;exact .of_pure (qvm ‹_› ‹_› tm _ nm ‹_›)
   ·cases h
  ·split at h
   ·cases h;exact .of_pure (qvn ‹_› ‹_› tm _ nm ‹_›)
   ·cases h
  ·split at h
   ·split at h
    ·exact qot ‹_› ‹_› tm mem nm ‹_› ‹_› ‹_› h
    ·cases h
   ·cases h
  ·cases h
 ·cases h
def ztq (σ:Names)(p:Nat):Prop:=∃m,σ p=some (.pointer (some ⟨m,0,none⟩))
def gr (σ:Names):Blk→Blk
 |.grp ps T=>.grow 1 (ps.map fun b=>[.v ((σ b).getD undef)]) T
 |k=>k
def gm (σ:Names)(m:Mem):Mem:=fun b=>(m b).map (gr σ)
theorem qx0 {σ:Names}{I:Nat→Prop}{w:World}{k:Blk}{v:Value}(h:RB σ I w k v):RB σ I w (gr σ k) v:=by
 cases h with
 |gnone=>exact .none
 |gemp a=>exact .emp a
 | @grp ps T n cap arr hw hl hcap hmax hr=>
   have:=RB.grow (σ:=σ) (I:=I) (w:=w) (sz:=1) (es:=ps.map fun b=>[D.v ((σ b).getD undef)]) (T:=T) (n:=n) (cap:=cap+1) (arr:=arr) hw (by omega) (by simpa using hcap) hmax (by simp) (fun i e j c h1 h2=>by
    rw[List.getElem?_map]at h1;obtain⟨b,hb,rfl⟩:=Option.map_eq_some_iff.1 h1;cases j with
    |succ j=>simp at h2
    |zero=>
     simp at h2;subst h2;obtain⟨m,q1,q2⟩:=hr i b hb;refine⟨.pointer (some ⟨m,0,none⟩),by simpa using q2,?_,rfl⟩;rw[q1];exact .v _)
   simpa[gr]using this
 |cells h1 h2 h3=>exact .cells h1 h2 h3
 |none=>exact .none
 |emp a=>exact .emp a
 |grow h1 h2 h3 h4 h5 h6=>exact .grow h1 h2 h3 h4 h5 h6
 |map keys vals h1 hb hk hu hl hv=>exact .map keys vals h1 hb hk hu hl hv
 |mapO keys vals h1 hst hb hkc hfk hk hu hl hv=>exact .mapO keys vals h1 hst hb hkc hfk hk hu hl hv
 |iter h1 h2=>exact .iter h1 h2
theorem qxz {σ σ':Names}{I:Nat→Prop}{w:World}{k:Blk}{v:Value}(hk:∀ps T,k=.grp ps T→∀p∈ps,ztq σ p)(hσ:∀b x,σ b=some x→σ' b=some x)(h:RB σ' I w (gr σ k) v):RB σ' I w k v:=by
 cases k with
 |grp ps T=>
  simp only[gr]at h;generalize hq:(ps.map fun b=>[D.v ((σ b).getD undef)])=es at h;cases h with
  |none=>
   obtain rfl:ps=[]:=List.map_eq_nil_iff.1 hq;exact .gnone
  |emp a=>
   obtain rfl:ps=[]:=List.map_eq_nil_iff.1 hq;exact .gemp a
  | @grow _ _ _ n cap arr h1 h2 h3 h4 h5 h6=>
    subst hq;rw[List.length_map]at h3⊢;cases cap with
    |zero=>
     obtain rfl:ps=[]:=List.eq_nil_of_length_eq_zero (by omega);exact .gemp _
    |succ cap=>
     refine .grp h1 (by omega) h3 h4 (fun i b hi=>?_);obtain⟨m,hm⟩:=hk ps T rfl b (List.mem_of_getElem? hi);obtain⟨x,g1,g2,_⟩:=h6 i [D.v ((σ b).getD undef)] 0 (D.v ((σ b).getD undef)) (by rw[List.getElem?_map,hi];rfl) rfl;rw[hm]at g2;cases g2;exact⟨m,hσ _ _ hm,by simpa using g1⟩
 |_=>exact h
theorem owns_gm {σ σ0:Names}{m:Mem}{n:Nat}:Owns σ (gm σ0 m) n↔Owns σ m n:=by
 constructor
 ·rintro⟨b,k,x,h1,h2,h3⟩;obtain⟨k',hk',_⟩:=Option.map_eq_some_iff.1 h1;exact⟨b,k',x,hk',h2,h3⟩
 ·rintro⟨b,k,x,h1,h2,h3⟩;exact⟨b,gr σ0 k,x,by simp[gm,h1],h2,h3⟩
theorem qxw {σ:Names}{I:Nat→Prop}{w:World}{m:Mem}(h:RM σ I w m):RM σ I w (gm σ m):=by
 refine⟨fun b k hk=>?_,fun b b' k k' x x' n h1 h2 h3 h4 h5 h6=>?_⟩
 ·obtain⟨k',hk',rfl⟩:=Option.map_eq_some_iff.1 hk;obtain⟨x,p,q,r⟩:=h.blk b k' hk';exact⟨x,p,qx0 q,r⟩
 ·obtain⟨q,hq,_⟩:=Option.map_eq_some_iff.1 h1;obtain⟨q',hq',_⟩:=Option.map_eq_some_iff.1 h2;exact h.apart b b' q q' x x' n hq hq' h3 h4 h5 h6
theorem qu3 {σ:Names}{I:Nat→Prop}{w:World}{m:Mem}(h:RM σ I w m){b:Nat}{ps:List Nat}{T:TypeId}(hb:m b=some (.grp ps T)):∀p∈ps,ztq σ p:=by
 obtain⟨x,_,hr,_⟩:=h.blk b _ hb;intro p hp;cases hr with
 |gnone=>cases hp
 |gemp a=>cases hp
 |grp _ _ _ _ h5=>
  obtain⟨i,hi⟩:=List.mem_iff_getElem?.1 hp;obtain⟨m,q,_⟩:=h5 i p hi;exact⟨m,q⟩
theorem Post.ungr {σ:Names}{I:Nat→Prop}{w:World}{mr mw:Mem}{nm:Nat}{σ':Names}{I':Nat→Prop}{w':World}(hk:∀b ps T,mw b=some (.grp ps T)→∀p∈ps,ztq σ p)
  (h:Post σ I w (gm σ mr) nm σ' I' w' (gm σ mw)):Post σ I w mr nm σ' I' w' mw:=by
 refine⟨h.os,h.tape,h.output,h.size,h.names,h.new,h.imono,h.ib,fun n hn=>?_,fun n h1 h2=>h.frame n h1 (fun ho=>h2 (owns_gm.1 ho)),⟨fun b k hb=>?_,fun b b' k k' x x' n h1 h2 h3 h4 h5 h6=>?_⟩,fun b k hb=>?_,fun n hn=>?_⟩
 ·rcases h.inew n hn with g|g|g
  ·exact .inl g
  ·exact .inr (.inl g)
  ·exact .inr (.inr (owns_gm.1 g))
 ·obtain⟨x,p,q,r⟩:=h.mem.blk b (gr σ k) (by simp[gm,hb]);exact⟨x,p,qxz (fun ps T e=>hk b ps T (e▸hb)) h.names q,r⟩
 ·exact h.mem.apart b b' (gr σ k) (gr σ k') x x' n (by simp[gm,h1]) (by simp[gm,h2]) h3 h4 h5 h6
 ·rcases h.dom b (gr σ k) (by simp[gm,hb])with g|g
  ·exact .inl (fun e=>g (by simp[gm,e]))
  ·exact .inr g
 ·rcases h.mine n (owns_gm.2 hn)with g|g
  ·exact .inl (owns_gm.1 g)
  ·exact .inr g
theorem OpOk.gp {P:Program}{o:Oper}{tm:Nat→AV}{mr mw:Mem}{nm:Nat}{res:AV}
  (h:∀σ:Names,(∀b ps T,mr b=some (.grp ps T)→∀p∈ps,ztq σ p)→(∀t q off,Operand.tmp t∈o.op.operands→tm t=.ptr q off→ztq σ q)→
    ∃(tm':Nat→AV) (res':AV),OpOk P o tm' (gm σ mr) nm res' (gm σ mw)∧(∀I w t v,Operand.tmp t∈o.op.operands→RV σ I w (tm t) v→RV σ I w (tm' t) v)∧(∀σ' I w v,(∀b x,σ b=some x→σ' b=some x)→RV σ' I w res' v→RV σ' I w res v))
  (hw:∀b ps T,mw b=some (.grp ps T)→∀p∈ps,(∃b' ps' T',mr b'=some (.grp ps' T')∧p∈ps')∨∃t off,Operand.tmp t∈o.op.operands∧tm t=.ptr p off):OpOk P o tm mr nm res mw:=by
 intro a w σ I hib hop hm hfree next Q hnext;have k1:∀b ps T,mr b=some (.grp ps T)→∀p∈ps,ztq σ p:=fun b ps T hb=>qu3 hm hb;have k2:∀t q off,Operand.tmp t∈o.op.operands→tm t=.ptr q off→ztq σ q:=by
  intro t q off ht e;have:=hop t ht;rw[e]at this;generalize a.tmps.getD t undef=v at this;cases this with
  |ptr h=>exact⟨_,h⟩
 obtain⟨tm',res',h1,h2,h3⟩:=h σ k1 k2;refine h1 a w σ I hib (fun t ht=>h2 I w t _ ht (hop t ht)) (qxw hm) hfree next Q (fun v σ' I' w' hp hv=>hnext v σ' I' w' (Post.ungr (fun b ps T hb p hpp=>?_) hp) (h3 σ' I' w' v hp.names hv));rcases hw b ps T hb p hpp with⟨b',ps',T',q1,q2⟩|⟨t,off,q1,q2⟩
 ·exact k1 b' ps' T' q1 p q2
 ·exact k2 t p off q1 q2
def Eff.gr (e:Eff)(σ:Names)(r:AV):Eff:=⟨r,e.rd,e.wr.map fun p=>(p.1,p.2.map (Go.AI.gr σ))⟩
theorem zs0 (σ:Names)(b:Nat):∀l:List (Nat×Option Blk),zat (l.map fun p=>(p.1,p.2.map (gr σ))) b=(zat l b).map (Option.map (gr σ))
 |[]=>rfl
 | (c,k)::r=>by
   simp only[List.map_cons,zat];split
   ·rfl
   ·exact zs0 σ b r
theorem qx8 (e:Eff)(σ:Names)(r:AV)(m:Mem):(e.gr σ r).mr (gm σ m)=gm σ (e.mr m):=by
 funext b
 simp only[Eff.mr,Eff.gr,zs0,gm];cases zat e.wr b<;>simp<;>split<;>simp_all
theorem qx7 (e:Eff)(σ:Names)(r:AV)(m:Mem):(e.gr σ r).mw (gm σ m)=gm σ (e.mw m):=by
 funext b
 simp only[Eff.mw,Eff.gr,zs0,gm];cases zat e.wr b<;>simp;split<;>simp_all
theorem OpOk.gpE {P:Program}{o:Oper}{tm:Nat→AV}{mem:Mem}{nm:Nat}{e:Eff}
  (h:∀σ:Names,(∀b ps T,mem b=some (.grp ps T)→b∈e.rd∨(zat e.wr b).isSome→∀p∈ps,ztq σ p)→(∀t q off,Operand.tmp t∈o.op.operands→tm t=.ptr q off→ztq σ q)→
    ∃(tm':Nat→AV) (res':AV),OpOk P o tm' ((e.gr σ res').mr (gm σ mem)) nm res' ((e.gr σ res').mw (gm σ mem))∧(∀I w t v,Operand.tmp t∈o.op.operands→RV σ I w (tm t) v→RV σ I w (tm' t) v)∧(∀σ' I w v,(∀b x,σ b=some x→σ' b=some x)→RV σ' I w res' v→RV σ' I w e.res v))
  (hw:∀b ps T,(b,some (Blk.grp ps T))∈e.wr→∀p∈ps,(∃b' ps' T',mem b'=some (.grp ps' T')∧(b'∈e.rd∨(zat e.wr b').isSome)∧p∈ps')∨∃t off,Operand.tmp t∈o.op.operands∧tm t=.ptr p off):OpOk P o tm (e.mr mem) nm e.res (e.mw mem):=by
 have hmr:∀b k,e.mr mem b=some k→mem b=some k∧(b∈e.rd∨(zat e.wr b).isSome):=by
  intro b k hb;simp only[Eff.mr]at hb;split at hb
  ·rename_i hc;exact⟨hb,hc.symm⟩
  ·cases hb
 have wm:∀(l:List (Nat×Option Blk)) b k,zat l b=some k→(b,k)∈l:=by
  intro l;induction l with
  |nil=>intro b k h;cases h
  |cons p l ih=>
   intro b k h;obtain⟨c,q⟩:=p;simp only[zat]at h;split at h
   ·rename_i e;cases h;subst e;simp
   ·exact List.mem_cons_of_mem _ (ih b k h)
 refine OpOk.gp (fun σ k1 k2=>?_) (fun b ps T hb p hp=>?_)
 ·obtain⟨tm',res',h1,h2,h3⟩:=h σ (fun b ps T hb hc=>k1 b ps T (by rw[Eff.mr,if_pos hc.symm];exact hb)) k2;rw[qx8,qx7]at h1;exact⟨tm',res',h1,h2,h3⟩
 ·simp only[Eff.mw]at hb;split at hb
  ·rename_i k hk;subst hb;rcases hw b ps T (wm _ _ _ hk) p hp with⟨b',ps',T',q1,q2,q3⟩|q
   ·exact .inl ⟨b',ps',T',by rw[Eff.mr,if_pos q2.symm];exact q1,q3⟩
   ·exact .inr q
  ·split at hb
   ·rename_i hc;exact .inl ⟨b,ps,T,by rw[Eff.mr,if_pos (.inr hc)];exact hb,hp⟩
   ·cases hb
section
variable {P : Program} {o : Oper} {tm : Nat → AV} {mem : Mem} {nm : Nat}
theorem qru {c:Call}(ho:o.op=.call c)(hc:c.callee=.builtin .len){T E:TypeId}(hT:c.argTypes[0]? =some T){ti:TI}(hti:tiOf P T=some ti)(hk:ti.k=.slc E){x:Operand}(hx:c.args[0]? =some x)
  {b:Nat} {ps:List Nat} {U:TypeId} (hv:ev tm x=.own b) (hb:mem b=some (.grp ps U)):
  OpOk P o tm ((Eff.mk (.d (.v (.int .i64 ps.length))) [b] []).mr mem) nm (.d (.v (.int .i64 ps.length))) ((Eff.mk (.d (.v (.int .i64 ps.length))) [b] []).mw mem):=by
 refine OpOk.gpE (e:=⟨.d (.v (.int .i64 ps.length)),[b],[]⟩) (fun σ _ _=>⟨tm,.d (.v (.int .i64 ps.length)),?_,fun _ _ _ _ _ h=>h,fun _ _ _ _ _ h=>h⟩) (fun _ _ _ h=>by cases h);refine qot ho hc tm (gm σ mem) nm hT hti hx (e:=⟨_,[b],[]⟩) ?_;rw[hv,hk];simp[lenE,gm,hb,gr]
theorem qhw {T E:TypeId}{x i:Operand}(ho:o.op=.indexAddr T x i){ti:TI}(hT:tiOf P T=some ti)(hk:ti.k=.slc E){te:TI}(hTe:tiOf P E=some te)(hz:te.sz=1)
  {b j:Nat} {ps:List Nat} {U:TypeId} (hv:ev tm x=.own b) (hi:ev tm i=.d (.v (.int .i64 j))) (hb:mem b=some (.grp ps U)) (hj:j<ps.length):
  OpOk P o tm ((Eff.mk (.prow b 1 j 0) [b] []).mr mem) nm (.prow b 1 j 0) ((Eff.mk (.prow b 1 j 0) [b] []).mw mem):=by
 refine OpOk.gpE (e:=⟨.prow b 1 j 0,[b],[]⟩) (fun σ _ _=>⟨tm,.prow b 1 j 0,?_,fun _ _ _ _ _ h=>h,fun _ _ _ _ _ h=>h⟩) (fun _ _ _ h=>by cases h);refine zix ho tm (gm σ mem) nm hT (.inr hk) hTe (e:=⟨_,[b],[]⟩) ?_;rw[hv,hi,hk,hz];simp[iaA,gm,hb,gr,hj]
theorem ql6 {T:TypeId}{x:Operand}(ho:o.op=.load T x){ti:TI}(hT:tiOf P T=some ti)(hg:ti.agg=false)
  {b j p:Nat} {ps:List Nat} {U:TypeId} (hv:ev tm x=.prow b 1 j 0) (hb:mem b=some (.grp ps U)) (hj:ps[j]? =some p):
  OpOk P o tm ((Eff.mk (.ptr p 0) [b] []).mr mem) nm (.ptr p 0) ((Eff.mk (.ptr p 0) [b] []).mw mem):=by
 refine OpOk.gpE (e:=⟨.ptr p 0,[b],[]⟩) (fun σ k1 _=>⟨tm,.d (.v ((σ p).getD undef)),?_,fun _ _ _ _ _ h=>h,fun σ' I w v hσ h=>?_⟩) (fun _ _ _ h=>by cases h)
 ·refine qhv ho tm (gm σ mem) nm hT (e:=⟨_,[b],[]⟩) ?_;rw[hv,hg];simp[zua,gm,hb,gr,hj,zjw]
 ·obtain⟨m,hm⟩:=k1 b ps U hb (.inl (by simp)) p (List.mem_of_getElem? hj);rw[hm]at h;rw[RV_v h];exact .ptr (hσ _ _ hm)
def vp (σ:Names):AV→AV
 |.ptr q 0=>.d (.v ((σ q).getD undef))
 |a=>a
theorem qpn {σ:Names}{I:Nat→Prop}{w:World}{a:AV}{v:Value}(h:RV σ I w a v):RV σ I w (vp σ a) v:=by
 unfold vp;split
 ·rename_i q;cases h with
  |ptr h=>rw[h];exact .d (.v _)
 ·exact h
theorem qhx {T E:TypeId}{t:Nat}(ho:o.op=.buildSlice T 1 #[(0,.tmp t)]){ti te:TI}(hT:tiOf P T=some ti)(hk:ti.k=.slc E)(hE:tiOf P E=some te)(hz:te.sz=1)(hz0:te.zero.length=1){p:Nat}(hv:tm t=.ptr p 0):
  OpOk P o tm ((Eff.mk (.own nm) [] [(nm,some (.grp [p] E))]).mr mem) nm (.own nm) ((Eff.mk (.own nm) [] [(nm,some (.grp [p] E))]).mw mem):=by
 have hop:Operand.tmp t∈o.op.operands:=by simp[ho,Op.operands]
 refine OpOk.gpE (e:=⟨.own nm,[],[(nm,some (.grp [p] E))]⟩) (fun σ _ k2=>⟨fun s=>vp σ (tm s),.own nm,?_,fun _ _ _ _ _ h=>qpn h,fun _ _ _ _ _ h=>h⟩) (fun b ps T' h q hq=>?_)
 ·obtain⟨m,hm⟩:=k2 t p 0 hop hv;obtain⟨z,hzz⟩:∃z,te.zero=[z]:=List.length_eq_one_iff.1 hz0;refine zlf ho (fun s=>vp σ (tm s)) (gm σ mem) nm hT hk hE (sc:=True) (e:=(Eff.mk (.own nm) [] [(nm,some (.grp [p] E))]).gr σ (.own nm)) ?_;simp[ev,hv,vp,hm,hz,hzz,Eff.gr,gr,zgb,zrg,zkw,toDs,toD,oneA,cellsOf,lay,Value.oneCell']
 ·simp at h;obtain⟨rfl,rfl,rfl⟩:=h;simp at hq;subst hq;exact .inr ⟨t,0,hop,hv⟩
theorem zr1 {c:Call}(ho:o.op=.call c)(hc:c.callee=.builtin .append){T U:TypeId}(hT:c.argTypes=#[T,U]){x y:Operand}(hx:c.args=#[x,y]){E:TypeId}{ti te:TI}(hti:tiOf P T=some ti)(hk:ti.k=.slc E)(hte:tiOf P E=some te)
  (hb0:0<te.bytes) (hz0:te.zero.length=te.sz) (hz:te.sz=1) (hU:∃e,P.underlying U=some (.slice e)) {a:Option Nat} {b:Nat} {ps qs:List Nat}
  (hv:(ev tm x=.d (.v (.slice none 0 0))∧a=none∧ps=[])∨∃a',ev tm x=.own a'∧a=some a'∧mem a'=some (.grp ps E)) (hv2:ev tm y=.own b) (hb:mem b=some (.grp qs E)) (hs:(ps.length+qs.length)*te.bytes≤140737488355328):
  OpOk P o tm ((Eff.mk (.own nm) [b] ((nm,some (.grp (ps++qs) E))::a.toList.map fun a=>(a,none))).mr mem) nm (.own nm) ((Eff.mk (.own nm) [b] ((nm,some (.grp (ps++qs) E))::a.toList.map fun a=>(a,none))).mw mem):=by
 refine OpOk.gpE (e:=⟨.own nm,[b],(nm,some (.grp (ps++qs) E))::a.toList.map fun a=>(a,none)⟩) (fun σ _ _=>⟨tm,.own nm,?_,fun _ _ _ _ _ h=>h,fun _ _ _ _ _ h=>h⟩) (fun d rs T' h q hq=>?_)
 ·have e1:(Eff.mk (.own nm) [b] ((nm,some (.grp (ps++qs) E))::a.toList.map fun a=>(a,none))).gr σ (.own nm)=⟨.own nm,[b],(nm,some (.grow te.sz ((ps.map fun b=>[.v ((σ b).getD undef)])++(qs.map fun b=>[.v ((σ b).getD undef)])) E))::a.toList.map fun a=>(a,none)⟩:=by
   simp[Eff.gr,gr,hz,Function.comp_def]
  rw[e1];have hl:∀l:List Nat,zb2 (l.map fun b=>[D.v ((σ b).getD undef)]) te.sz:=by
   intro l e he;obtain⟨q,_,rfl⟩:=List.mem_map.1 he;simp[hz]
  have hd:dstE te.sz E (gm σ mem) (ev tm x)=some (ps.map (fun b=>[.v ((σ b).getD undef)]),a.isNone,a):=by
   rcases hv with⟨h1,rfl,rfl⟩|⟨a',h1,rfl,h2⟩
   ·rw[h1];simp[dstE]
   ·rw[h1];simp[dstE,gm,h2,gr,hz]
  have hsrc:addE false te.sz (gm σ mem) (ev tm y)=some (qs.map (fun b=>[.v ((σ b).getD undef)]),[b]):=by
   rw[hv2];simp[addE,srcE,gm,hb,gr,hz]
  obtain⟨sc,e2,he,hsc,hee⟩:∃sc e2,zkx false te.sz te.bytes E (gm σ mem) nm (ev tm x) (ev tm y)=some (sc,e2)∧sc∧e2=⟨.own nm,[b],(nm,some (.grow te.sz ((ps.map fun b=>[.v ((σ b).getD undef)])++(qs.map fun b=>[.v ((σ b).getD undef)])) E))::a.toList.map fun a=>(a,none)⟩:=by
   unfold zkx;rw[hd,hsrc];refine⟨_,_,rfl,⟨fun hf=>.inl ?_,hl ps,hl qs,by simpa using hs⟩,rfl⟩;rcases hv with⟨_,_,rfl⟩|⟨a',_,rfl,_⟩
   ·rfl
   ·simp at hf
  subst hee;exact zp5 ho hc tm (gm σ mem) nm hT hx hti hk hte hb0 hz0 (str:=false) (by simpa using hU) he hsc
 ·simp at h;obtain⟨rfl,rfl,rfl⟩:=h;rcases List.mem_append.1 hq with g|g
  ·rcases hv with⟨_,_,rfl⟩|⟨a',_,rfl,h2⟩
   ·cases g
   ·exact .inl ⟨a',_,_,h2,.inr (by simp[zat];split<;>simp),g⟩
  ·exact .inl ⟨b,_,_,hb,.inl (by simp),g⟩
end
end Go.AI
namespace Go.AI
open Classical
def qiw (P:Program)(T:TypeId)(ka:Bool)(ks:List CK):Bool:=
 decide (zd3 P 8 T=some ks)&&keyT P T&&decide (ks.length=szOf P T)&&(match P.underlying T with
  |some d=>decide (aggD d=ka)&&(ka|| (match d,ks with|.int _,[.int]=>true|.bool,[.bool]=>true|.string,[.str]=>true|_,_=>false))
  |none=>false)
theorem zzw {P:Program}{T:TypeId}{ka:Bool}{ks:List CK}(h:qiw P T ka ks=true):zxh P T ka ks:=by
 simp only[qiw,Bool.and_eq_true,decide_eq_true_eq]at h;obtain⟨⟨⟨h1,h2⟩,h3⟩,h4⟩:=h;refine⟨h1,h2,h3,?_⟩;split at h4
 ·rename_i d hd;simp only[Bool.and_eq_true,decide_eq_true_eq,Bool.or_eq_true]at h4;first|rw[hd]|skip
  refine And.intro h4.1 (fun hk=>?_);rcases h4.2 with h|h
  ·rw[hk]at h;cases h
  ·exact h
 ·cases h4
structure MI where
 K:TypeId
 E:TypeId
 ka:Bool
 ks:List CK
 te:TI
def miOf (P:Program)(T:TypeId):Option MI:=
 match tiOf P T with
 |some ti=>match ti.k with
  |.map K E=>match tiOf P K,tiOf P E with
   |some tk,some te=>match tk.fl with
    |some ks=>if qiw P K tk.agg ks then some ⟨K,E,tk.agg,ks,te⟩else none
    |none=>none
   |_,_=>none
  |_=>none
 |none=>none
theorem zll {P:Program}{T:TypeId}{mi:MI}(h:miOf P T=some mi):∃ti,tiOf P T=some ti∧ti.k=.map mi.K mi.E∧tiOf P mi.E=some mi.te∧zxh P mi.K mi.ka mi.ks:=by
 unfold miOf at h;split at h
 case h_2=>cases h
 rename_i ti hti;split at h
 case h_2=>cases h
 rename_i K E hk;split at h
 case h_2=>cases h
 rename_i tk te htk hte;split at h
 case h_2=>cases h
 rename_i ks hks;split at h
 ·rename_i hb;cases h;exact⟨ti,hti,hk,hte,zzw hb⟩
 ·cases h
def elT (P:Program)(T:TypeId):Option (TypeId×TI):=
 match tiOf P T with
 |some ti=>match ti.k with
  |.slc E=>match tiOf P E with
   |some te=>some (E,te)
   |none=>none
  |_=>none
 |none=>none
theorem zfu {P:Program}{T E:TypeId}{te:TI}(h:elT P T=some (E,te)):∃ti,tiOf P T=some ti∧ti.k=.slc E∧tiOf P E=some te:=by
 unfold elT at h;split at h
 case h_2=>cases h
 rename_i ti hti;split at h
 case h_2=>cases h
 rename_i E' hk;split at h
 ·rename_i te' hte;cases h;exact⟨ti,hti,hk,hte⟩
 ·cases h
noncomputable def zyn (P:Program)(o:Oper)(tm:Nat→AV)(mem:Mem)(nm:Nat):Option (Prop×Eff):=
 match o.op with
 |.buildSlice T len parts=>match elT P T with
  |some (E,te)=>zgb te.sz len te.zero E nm (parts.toList.map fun p=>(p.1,ev tm p.2))
  |none=>none
 |.makeMap T none=>match miOf P T with
  |some mi=>some (True,⟨.own nm,[],[(nm,some (.map mi.ka mi.ks mi.te.agg fun _=>none))]⟩)
  |none=>none
 |.range T x=>match tiOf P T,ev tm x with
  |some ti,.d (.v (.string s))=>if ti.k=.str then some (True,⟨.own nm,[],[(nm,some (.iter s 0))]⟩)else none
  |_,_=>none
 |.next x true=>qmf mem (ev tm x)
 |.lookup T x k ok=>match miOf P T with
  |some mi=>zt7 mi.te mi.ka mi.ks mem (ev tm x) (ev tm k) ok
  |none=>none
 |.mapUpdate T m k x=>match miOf P T with
  |some mi=>zo6 mi.te mi.ka mi.ks mem (ev tm m) (ev tm k) (ev tm x)
  |none=>none
 |.insert T m k x=>match miOf P T with
  |some mi=>zo6 mi.te mi.ka mi.ks mem (ev tm m) (ev tm k) (ev tm x)
  |none=>none
 |.convert S T x=>match tiOf P S,tiOf P T with
  |some ts,some td=>qj0 ts.k td.k (match ts.k with
   |.slc E=>match tiOf P E with
    |some te=>if te.sz=1 then some te.k else none
    |none=>none
   |_=>none) mem (ev tm x)
  |_,_=>none
 |.slice T x lo hi mx=>match tiOf P T with
  |some ti=>if mx.isSome=true∧hi.isSome=false then none else match ti.k with
   |.slc E=>match tiOf P E with
    |some te=>zvo (.slc E) te.sz mem (ev tm x) (lo.map (ev tm)) (hi.map (ev tm)) (mx.map (ev tm))
    |none=>none
   |.str=>zvo .str 0 mem (ev tm x) (lo.map (ev tm)) (hi.map (ev tm)) (mx.map (ev tm))
   |_=>none
  |none=>none
 |.makeSlice T l c=>match elT P T with
  |some (E,te)=>if te.zero.all Value.oneCell'=true then zji te E nm (ev tm l) (ev tm c)else none
  |none=>none
 |.typeAssert x _ T ok=>match tiOf P T with
  |some te=>taE (match te.k with|.iface _=>true|_=>false) T te ok (ev tm x)
  |none=>none
 |.binOp op T x y _=>match zvr op (ev tm x) (ev tm y)with
  |some r=>some r
  |none=>match tiOf P T with
   |some ti=>nilE op y ti.k mem (ev tm x)
   |none=>none
 |.call c=>match c.callee with
  |.builtin .append=>match c.argTypes.toList,c.args.toList with
   |[T,U],[x,y]=>match elT P T,tiOf P U with
    |some (E,te),some tu=>if 0<te.bytes∧te.zero.length=te.sz then match tu.k with
      |.str=>zkx true te.sz te.bytes E mem nm (ev tm x) (ev tm y)
      |.slc _=>zkx false te.sz te.bytes E mem nm (ev tm x) (ev tm y)
      |.int .i64=>if te.zero.all Value.oneCell'=true then zo5 te E nm (ev tm x) (ev tm y)else none
      |_=>none
     else none
    |_,_=>none
   |_,_=>none
  |.builtin .cap=>match c.argTypes[0]?,c.args[0]? with
   |some T,some x=>match tiOf P T with
    |some ti=>capE ti.k (ev tm x)
    |none=>none
   |_,_=>none
  |.builtin .clear=>match c.argTypes[0]?,c.args[0]? with
   |some T,some x=>match elT P T with
    |some (E,te)=>if te.zero.all Value.oneCell'=true then qck te mem (ev tm x)else none
    |none=>none
   |_,_=>none
  |_=>none
 |_=>none
theorem arr2 {α:Type}{a:Array α}{x y:α}(h:a.toList=[x,y]):a=#[x,y]:=by
 cases a;simp at h;simp[h]
theorem zym {P:Program}{o:Oper}{tm:Nat→AV}{mem:Mem}{nm:Nat}{sc:Prop}{e:Eff}(h:zyn P o tm mem nm=some (sc,e))(hsc:sc):OpOk P o tm (e.mr mem) nm e.res (e.mw mem):=by
 unfold zyn at h;split at h
 ·split at h
  ·rename_i he;obtain⟨ti,h1,h2,h3⟩:=zfu he;exact zlf ‹_› tm mem nm h1 h2 h3 h
  ·cases h
 ·split at h
  ·cases h;exact qdx ‹_› rfl tm mem nm _ _ _ rfl
  ·cases h
 ·split at h
  ·rename_i ti s hti hx;split at h
   ·cases h;exact ql4 ‹_› tm mem nm hti ‹_› hx rfl
   ·cases h
  ·cases h
 ·exact qrs ‹_› tm mem nm h
 ·split at h
  ·rename_i mi hmi;obtain⟨ti,h1,h2,h3,h4⟩:=zll hmi;exact qhu ‹_› tm mem nm h1 h2 h3 h4 h hsc
  ·cases h
 ·split at h
  ·rename_i ho _ mi hmi;obtain⟨ti,h1,h2,h3,h4⟩:=zll hmi;exact zwl (.inl ho) tm mem nm h1 h2 h4 h hsc
  ·cases h
 ·split at h
  ·rename_i ho _ mi hmi;obtain⟨ti,h1,h2,h3,h4⟩:=zll hmi;exact zwl (.inr ho) tm mem nm h1 h2 h4 h hsc
  ·cases h
 ·split at h
  ·rename_i ts td hts htd;refine qdz ‹_› tm mem nm hts htd (fun E hE k hk=>?_) h hsc;rw[hE]at hk;simp only at hk;split at hk
   ·rename_i te hte;split at hk
    ·cases hk;exact⟨te,hte,rfl,‹_›⟩
    ·cases hk
   ·cases hk
  ·cases h
 ·split at h
  ·rename_i ho _ ti hti;split at h
   ·cases h
   ·rename_i hmh;have hmh':∀{mx hi:Option Operand},¬(mx.isSome=true∧hi.isSome=false)→mx≠none→hi≠none:=by
     intro mx hi h1 h2 h3;subst h3;cases mx with
     |none=>exact h2 rfl
     |some _=>exact h1 ⟨rfl,rfl⟩
    split at h
    ·rename_i E hk;split at h
     ·rename_i te hte;exact qbl (sz:=te.sz) ho (hmh' hmh) tm mem nm hti (fun E' hE'=>by rw[hk]at hE';cases hE';exact⟨te,hte,rfl⟩) (by rw[hk];exact h) hsc
     ·cases h
    ·rename_i hk;exact qbl (sz:=0) ho (hmh' hmh) tm mem nm hti (fun E' hE'=>by rw[hk]at hE';cases hE') (by rw[hk];exact h) hsc
    ·cases h
  ·cases h
 ·split at h
  ·rename_i he;obtain⟨ti,h1,h2,h3⟩:=zfu he;split at h
   ·rename_i hz;exact zwp ‹_› tm mem nm h1 h2 h3 (fun x hx=>by simpa using List.all_eq_true.1 hz x hx) h hsc
   ·cases h
  ·cases h
 ·split at h
  ·rename_i te hte;refine ztu ‹_› tm mem nm hte (fun ha b hb=>?_) h;rw[hb]at ha;cases ha
  ·cases h
 ·split at h
  ·rename_i ho _ r hr;cases h;exact ql3 ho tm mem nm hr hsc
  ·split at h
   ·exact ok_nil ‹_› tm mem nm ‹_› h
   ·cases h
 ·rename_i c ho;split at h
  ·rename_i hcal;split at h
   ·rename_i T U x y hT hA;split at h
    ·rename_i E te tu he htu;obtain⟨ti,h1,h2,h3⟩:=zfu he;split at h
     ·rename_i hc;split at h
      ·rename_i hk;exact zp5 (str:=true) ho hcal tm mem nm (arr2 hT) (arr2 hA) h1 h2 h3 hc.1 hc.2 (by simpa using strK htu hk) h hsc
      ·rename_i E' hk;exact zp5 (str:=false) ho hcal tm mem nm (arr2 hT) (arr2 hA) h1 h2 h3 hc.1 hc.2 (by simpa using⟨E',slcK htu hk⟩) h hsc
      ·rename_i hk;split at h
       ·rename_i hz;exact qd0 ho hcal tm mem nm (arr2 hT) (arr2 hA) h1 h2 h3 htu hk (fun x hx=>by simpa using List.all_eq_true.1 hz x hx) h hsc
       ·cases h
      ·cases h
     ·cases h
    ·cases h
   ·cases h
  ·rename_i hcal;split at h
   ·rename_i T x hT hx;split at h
    ·exact qvp ho hcal tm mem nm hT ‹_› hx h
    ·cases h
   ·cases h
  ·rename_i hcal;split at h
   ·rename_i T x hT hx;split at h
    ·rename_i E te he;obtain⟨ti,h1,h2,h3⟩:=zfu he;split at h
     ·rename_i hz;exact ql9 ho hcal tm mem nm hT h1 h2 h3 (fun x hx=>by simpa using List.all_eq_true.1 hz x hx) hx h hsc
     ·cases h
    ·cases h
   ·cases h
  ·cases h
 ·cases h
noncomputable def zyl (P:Program)(o:Oper)(tm:Nat→AV)(mem:Mem)(nm:Nat):Option (Prop×Eff):=
 match o.op with
 |.mapEntry T m k=>match miOf P T with
  |some mi=>qch mi.te mi.ka mi.ks mem nm (ev tm m) (ev tm k)
  |none=>none
 |.entryStore _ m s x=>zs6 mem (ev tm m) (ev tm s) (ev tm x)
 |_=>none
theorem zyk {P:Program}{o:Oper}{tm:Nat→AV}{mem:Mem}{nm:Nat}{sc:Prop}{e:Eff}(h:zyl P o tm mem nm=some (sc,e))(hsc:sc):OpOk P o tm (e.mr mem) nm e.res (e.mw mem):=by
 unfold zyl at h;split at h
 ·split at h
  ·rename_i mi hmi;obtain⟨ti,h1,h2,h3,h4⟩:=zll hmi;exact ql8 ‹_› tm mem nm h1 h2 h3 h4 h hsc
  ·cases h
 ·exact ztw ‹_› tm mem nm h
 ·cases h
noncomputable def zsv (P:Program)(o:Oper)(tm:Nat→AV)(mem:Mem)(nm:Nat):Option (Prop×Eff):=
 match zyn P o tm mem nm with
 |some r=>some r
 |none=>zyl P o tm mem nm
theorem zn1 {P:Program}{o:Oper}{tm:Nat→AV}{mem:Mem}{nm:Nat}{sc:Prop}{e:Eff}(h:zsv P o tm mem nm=some (sc,e))(hsc:sc):OpOk P o tm (e.mr mem) nm e.res (e.mw mem):=by
 unfold zsv at h;split at h
 ·cases h;exact zym ‹_› hsc
 ·exact zyk h hsc
def zwx :AV→List Nat
 |.own b=>[b]
 |.sl b _ _ _=>[b]
 |_=>[]
def gvOf (tm:Nat→AV)(o:Oper):List Nat:=
 match o.op with
 |.buildSlice _ _ parts=>parts.toList.flatMap fun p=>zwx (ev tm p.2)
 |.mapUpdate _ _ _ x=>zwx (ev tm x)
 |.insert _ _ _ x=>zwx (ev tm x)
 |.entryStore _ _ _ x=>zwx (ev tm x)
 |_=>[]
noncomputable def absG (P:Program)(o:Oper)(tm:Nat→AV)(mem:Mem)(nm:Nat)(gv:List Nat):Option (Prop×Eff):=
 match gv with
 |[]=>none
 |c::r=>match zsv P o (fun t=>prA (fun b=>!(c::r).contains b) mem 8 (tm t)) (gvB (c::r) mem) nm with
  |some (sc,e)=>some (((c::r).all (fun b=>(mem b).isSome)=true)∧sc,⟨e.res,e.rd,e.wr++(c::r).map fun b=>(b,none)⟩)
  |none=>none
theorem qe9 {P:Program}{o:Oper}{tm:Nat→AV}{mem:Mem}{nm:Nat}{gv:List Nat}{sc:Prop}{e:Eff}(h:absG P o tm mem nm gv=some (sc,e))(hsc:sc):OpOk P o tm (e.mr mem) nm e.res (e.mw mem):=by
 unfold absG at h;split at h
 ·cases h
 ·rename_i c r;split at h
  ·rename_i sc' e' he;cases h;obtain⟨s1,s2⟩:=hsc;exact OpOk.give (c::r) (fun b hb=>List.all_eq_true.1 s1 b hb) (zn1 he s2)
  ·cases h
noncomputable def qkj (P:Program)(o:Oper)(tm:Nat→AV)(mem:Mem)(nm:Nat):Option (Prop×Eff):=
 match o.op with
 |.call c=>match c.callee with
  |.builtin .len=>match c.argTypes[0]?,c.args[0]? with
   |some T,some x=>match elT P T,ev tm x with
    |some (_,_),.own b=>match mem b with
     |some (.grp ps _)=>some (True,⟨.d (.v (.int .i64 ps.length)),[b],[]⟩)
     |_=>none
    |_,_=>none
   |_,_=>none
  |.builtin .append=>match c.argTypes.toList,c.args.toList with
   |[T,U],[x,y]=>match elT P T,elT P U,ev tm y with
    |some (E,te),some (_,_),.own b=>match mem b with
     |some (.grp qs E')=>if E'=E∧0<te.bytes∧te.zero.length=te.sz∧te.sz=1 then match ev tm x with
       |.d (.v (.slice none 0 0))=>some (qs.length*te.bytes≤140737488355328,⟨.own nm,[b],[(nm,some (.grp qs E))]⟩)
       |.own a=>match mem a with
        |some (.grp ps E'')=>if E''=E then some ((ps.length+qs.length)*te.bytes≤140737488355328,⟨.own nm,[b],[(nm,some (.grp (ps++qs) E)),(a,none)]⟩)else none
        |_=>none
       |_=>none
      else none
     |_=>none
    |_,_,_=>none
   |_,_=>none
  |_=>none
 |.indexAddr T x i=>match elT P T,ev tm x,ev tm i with
  |some (_,te),.own b,.d (.v (.int .i64 n))=>match mem b with
   |some (.grp ps _)=>if 0≤n∧n<ps.length∧te.sz=1 then some (True,⟨.prow b 1 n.toNat 0,[b],[]⟩)else none
   |_=>none
  |_,_,_=>none
 |.load T x=>match tiOf P T,ev tm x with
  |some ti,.prow b 1 j 0=>match mem b with
   |some (.grp ps _)=>match ps[j]? with
    |some p=>if ti.agg=false then some (True,⟨.ptr p 0,[b],[]⟩)else none
    |none=>none
   |_=>none
  |_,_=>none
 |.buildSlice T 1 parts=>match elT P T,parts.toList with
  |some (E,te),[(0,.tmp t)]=>match tm t with
   |.ptr p 0=>if te.sz=1∧te.zero.length=1 then some (True,⟨.own nm,[],[(nm,some (.grp [p] E))]⟩)else none
   |_=>none
  |_,_=>none
 |_=>none
theorem qaj {P:Program}{o:Oper}{tm:Nat→AV}{mem:Mem}{nm:Nat}{sc:Prop}{e:Eff}(h:qkj P o tm mem nm=some (sc,e))(hsc:sc):OpOk P o tm (e.mr mem) nm e.res (e.mw mem):=by
 unfold qkj at h;split at h
 ·rename_i c ho;split at h
  ·rename_i hcal;split at h
   ·rename_i T x hT hx;split at h
    ·rename_i E te b hE hv;obtain⟨ti,h1,h2,h3⟩:=zfu hE;split at h
     ·rename_i ps U hb;cases h;exact qru ho hcal hT h1 h2 hx hv hb
     ·cases h
    ·cases h
   ·cases h
  ·rename_i hcal;split at h
   ·rename_i T U x y hT hA;split at h
    ·rename_i E te E2 te2 b hE hU hv2;obtain⟨ti,h1,h2,h3⟩:=zfu hE;obtain⟨ti2,h4,h5,h6⟩:=zfu hU;split at h
     ·rename_i qs E' hb;split at h
      ·rename_i hc;obtain⟨rfl,c1,c2,c3⟩:=hc;split at h
       ·rename_i hv;cases h;have:=zr1 (o:=o) (nm:=nm) (a:=none) (ps:=[]) ho hcal (arr2 hT) (arr2 hA) h1 h2 h3 c1 c2 c3 ⟨_,slcK h4 h5⟩ (.inl ⟨hv,rfl,rfl⟩) hv2 hb (by simpa using hsc);simpa using this
       ·rename_i a hv;split at h
        ·rename_i ps E'' ha;split at h
         ·rename_i he;subst he;cases h;have:=zr1 (o:=o) (nm:=nm) (a:=some a) (ps:=ps) ho hcal (arr2 hT) (arr2 hA) h1 h2 h3 c1 c2 c3 ⟨_,slcK h4 h5⟩ (.inr ⟨a,hv,rfl,ha⟩) hv2 hb hsc;simpa using this
         ·cases h
        ·cases h
       ·cases h
      ·cases h
     ·cases h
    ·cases h
   ·cases h
  ·cases h
 ·rename_i T x i ho;split at h
  ·rename_i E te b n hE hv hi;obtain⟨ti,h1,h2,h3⟩:=zfu hE;split at h
   ·rename_i ps U hb;split at h
    ·rename_i hc;cases h;exact qhw (j:=n.toNat) ho h1 h2 h3 hc.2.2 hv (by rw[hi,Int.toNat_of_nonneg hc.1]) hb (by omega)
    ·cases h
   ·cases h
  ·cases h
 ·rename_i T x ho;split at h
  ·rename_i ti b j hti hv;split at h
   ·rename_i ps U hb;split at h
    ·rename_i p hp;split at h
     ·rename_i hg;cases h;exact ql6 ho hti hg hv hb hp
     ·cases h
    ·cases h
   ·cases h
  ·cases h
 ·rename_i T parts ho;split at h
  ·rename_i E te t hE hp;obtain⟨ti,h1,h2,h3⟩:=zfu hE;have hp':parts=#[(0,.tmp t)]:=by cases parts;simp at hp;simp[hp]
   subst hp';split at h
   ·rename_i p hv;split at h
    ·rename_i hc;cases h;exact qhx ho h1 h2 h3 hc.1 hc.2 hv
    ·cases h
   ·cases h
  ·cases h
 ·cases h
noncomputable def absC (P:Program)(o:Oper)(tm:Nat→AV)(mem:Mem)(nm:Nat):Option (Prop×Eff):=
 match qki P o tm mem nm with
 |some e=>some (True,e)
 |none=>match zsv P o tm mem nm with
  |some r=>some r
  |none=>match absG P o tm mem nm (gvOf tm o)with
   |some r=>some r
   |none=>qkj P o tm mem nm
theorem zsw {P:Program}{o:Oper}{tm:Nat→AV}{mem:Mem}{nm:Nat}{sc:Prop}{e:Eff}(h:absC P o tm mem nm=some (sc,e))(hsc:sc):OpOk P o tm (e.mr mem) nm e.res (e.mw mem):=by
 unfold absC at h;split at h
 ·cases h;exact qai ‹_›
 ·split at h
  ·cases h;exact zn1 ‹_› hsc
  ·split at h
   ·cases h;exact qe9 ‹_› hsc
   ·exact qaj h hsc
end Go.AI
namespace Go.AI
inductive It where
 |code (c:Code)
 |blk (id:Nat)
 |stop (B:X→Prop)
 |ops (ops:Array Oper) (rest:List Oper) (i:Nat) (ft:List (List Nat×List Nat)) (draw:Bool)
 |br (v:AV) (a b:Code)
 |gd (v:AV) (wa:Bool) (ops:Array Oper) (o:Oper) (rest:List Oper) (i:Nat) (ft:List (List Nat×List Nat)) (draw:Bool)
 |eff (r:Option (Prop×Eff)) (ops:Array Oper) (o:Oper) (rest:List Oper) (i:Nat) (ft:List (List Nat×List Nat)) (draw:Bool)
def gvv (ops:Array Oper)(g:Nat)(tm:Nat→AV):Option Value:=
 match ops[g]? with
 |some p=>match p.dst with
  |some d=>match tm d with
   |.d (.v y)=>some y
   |_=>none
  |none=>none
 |none=>none
def zhk (ops:Array Oper)(g:Nat)(tm:Nat→AV):Option Bool:=
 match ops[g]? with
 |some p=>match p.dst with
  |some d=>match tm d with
   |.d (.v (.bool b))=>some b
   |_=>none
  |none=>none
 |none=>none
def ze7 (nt:Nat):Option Nat→Bool
 |some d=>decide (d<nt)
 |none=>true
def zp3 (id:Nat):List It→Option (List It)
 |[]=>none
 |.blk i::k=>if i=id then some k else zp3 id k
 |_::k=>zp3 id k
def zds :It→Bool
 |.ops _ _ _ _ _=>true
 |.br _ _ _=>true
 |.gd _ _ _ _ _ _ _ _=>true
 |.eff _ _ _ _ _ _ _=>true
 |_=>false
def zay (k:List It):Bool:=k.all fun i=>!zds i
theorem zca {id:Nat}:∀{k k':List It},zay k=true→zp3 id k=some k'→zay k'=true
 |[],_,_,h=>by cases h
 |.blk i::k,k',hc,h=>by
  simp only[zp3]at h;simp only[zay,List.all_cons,Bool.and_eq_true]at hc;split at h
  ·cases h;exact hc.2
  ·exact zca hc.2 h
 |.code c::k,k',hc,h=>by simp only[zay,List.all_cons,Bool.and_eq_true]at hc;exact zca hc.2 h
 |.stop c::k,k',hc,h=>by simp only[zay,List.all_cons,Bool.and_eq_true]at hc;exact zca hc.2 h
 |.ops _ _ _ _ _::k,k',hc,h=>by simp only[zay,List.all_cons,Bool.and_eq_true]at hc;exact zca hc.2 h
 |.br _ _ _::k,k',hc,h=>by simp only[zay,List.all_cons,Bool.and_eq_true]at hc;exact zca hc.2 h
 |.gd _ _ _ _ _ _ _ _::k,k',hc,h=>by simp only[zay,List.all_cons,Bool.and_eq_true]at hc;exact zca hc.2 h
 |.eff _ _ _ _ _ _ _::k,k',hc,h=>by simp only[zay,List.all_cons,Bool.and_eq_true]at hc;exact zca hc.2 h
abbrev Fin :=Exit→Act→World→Prop
section
variable {ro : Option Nat} {dp : Nat} {J : Names → (Nat → Prop) → World → Prop}
def aftI (ro:Option Nat)(dp:Nat)(J:Names→(Nat→Prop)→World→Prop)(E:Ctx):List It→Fin→Fin
 |[],Q,e,a,w=>Q e a w
 |.code c::k,Q,.normal,a,w=>c.wpIn (FW ro) dp E.P (aftI ro dp J E k Q) a w
 |.code _::k,Q,e,a,w=>aftI ro dp J E k Q e a w
 |.blk id::k,Q,.exit i,a,w=>if i=id then aftI ro dp J E k Q .normal a w else aftI ro dp J E k Q (.exit i) a w
 |.blk _::k,Q,e,a,w=>aftI ro dp J E k Q e a w
 |.stop B::_,_,.normal,a,w=>∃x,Rel E x.den a w∧B x
 |.stop _::k,Q,e,a,w=>aftI ro dp J E k Q e a w
 |.ops _ _ _ _ _::k,Q,e,a,w=>aftI ro dp J E k Q e a w
 |.br _ _ _::k,Q,e,a,w=>aftI ro dp J E k Q e a w
 |.gd _ _ _ _ _ _ _ _::k,Q,e,a,w=>aftI ro dp J E k Q e a w
 |.eff _ _ _ _ _ _ _::k,Q,e,a,w=>aftI ro dp J E k Q e a w
def zjx (E:Ctx)(R:Exit→X→Prop):Fin:=fun e a w=>∃x,Rel E x.den a w∧R e x
def LoopI (ro:Option Nat)(dp:Nat)(J:Names→(Nat→Prop)→World→Prop)(P:Program)(nt:Nat)(R:Exit→X→Prop)(body:Code)(k:List It)(x:X):Prop:=
 ∀E:Ctx,E.P=P→E.nt=nt→(∀s σ I a w,RelAt E s σ I a w→J σ I w)→∀a w,Rel E x.den a w→(Code.loop body).wpIn (FW ro) dp P (aftI ro dp J E k (zjx E R)) a w
inductive CI (ro:Option Nat)(dp:Nat)(J:Names→(Nat→Prop)→World→Prop)(P:Program)(nt:Nat)(R:Exit→X→Prop):List It→X→Prop
 |fin {x:X} (h:R .normal x):CI ro dp J P nt R [] x
 |stop {B:X→Prop} {k:List It} {x:X} (h:B x):CI ro dp J P nt R (.stop B::k) x
 |blk {id:Nat} {k:List It} {x:X} (h:CI ro dp J P nt R k x):CI ro dp J P nt R (.blk id::k) x
 |skip {k:List It} {x:X} (h:CI ro dp J P nt R k x):CI ro dp J P nt R (.code .skip::k) x
 |label {l:Nat} {k:List It} {x:X} (h:CI ro dp J P nt R k x):CI ro dp J P nt R (.code (.label l)::k) x
 |seq {c d:Code} {k:List It} {x:X} (h:CI ro dp J P nt R (.code c:: .code d::k) x):CI ro dp J P nt R (.code (.seq c d)::k) x
 |block {id:Nat} {c:Code} {k:List It} {x:X} (h:CI ro dp J P nt R (.code c:: .blk id::k) x):CI ro dp J P nt R (.code (.block id c)::k) x
 |cond {o:Operand} {c d:Code} {k:List It} {x:X} {t:Bool} (ho:ev (zal x.tm) o=.d (.v (.bool t)))
   (h1:t=true→CI ro dp J P nt R (.code c::k) x) (h2:t=false→CI ro dp J P nt R (.code d::k) x):CI ro dp J P nt R (.code (.cond o c d)::k) x
 |condAb {o:Operand} {c d:Code} {k:List It} {x:X} (ho:ev (zal x.tm) o=.ab) (h1:CI ro dp J P nt R (.code c::k) x) (h2:CI ro dp J P nt R (.code d::k) x):CI ro dp J P nt R (.code (.cond o c d)::k) x
 |exit {id:Nat} {k k':List It} {x:X} (hp:zp3 id k=some k') (h:CI ro dp J P nt R k' x):CI ro dp J P nt R (.code (.exit id)::k) x
 |ret {k:List It} {x:X} (h:R .ret x):CI ro dp J P nt R (.code .ret::k) x
 |goto {l:Nat} {k:List It} {x:X} (h:R (.goto l) x):CI ro dp J P nt R (.code (.goto l)::k) x
 |opPan {ops:Array Oper} {o:Oper} {rest:List Oper} {i:Nat} {ft:List (List Nat×List Nat)} {k:List It} {x:X} (y:X) (ch:List PanicEntry) (hg:o.guard=none) (hpl:zfd o=true)
   (he:∀(E:Ctx) (s:S) a w,E.P=P→E.nt=nt→s.tm=zal x.tm→s.mm=zap x.mm→(∀b,x.nx+64*i≤b→s.fr b)→Rel E s a w→∀(next:Act→World→Prop) (Q:Exit→Act→World→Prop),(∀a' w',Rel E y.den a' w'→Q (.panic ch) a' w')→o.wp P a w next Q)
   (h:R (.panic ch) y):CI ro dp J P nt R (.ops ops (o::rest) i ft false::k) x
 |loop {c:Code} {k:List It} {x:X} (h:LoopI ro dp J P nt R c k x):CI ro dp J P nt R (.code (.loop c)::k) x
 |region {id:Nat} {ops:Array Oper} {draw:Bool} {k:List It} {x:X} (h:CI ro dp J P nt R (.ops ops ops.toList 0 [] draw::k) x):CI ro dp J P nt R (.code (.region id ops draw)::k) x
 |opEnd {ops:Array Oper} {i:Nat} {ft:List (List Nat×List Nat)} {draw:Bool} {k:List It} {x:X} (hd:draw=true→∃pre,zsk ops pre=true∧qcb pre ft=true)
   (h:CI ro dp J P nt R k ⟨x.tm,x.mm,x.nx+64*i⟩):CI ro dp J P nt R (.ops ops [] i ft draw::k) x
 |op {ops:Array Oper} {o:Oper} {rest:List Oper} {i:Nat} {ft:List (List Nat×List Nat)} {draw:Bool} {k:List It} {x:X} (e:Eff) (hdst:ze7 nt o.dst=true)
   (hg:o.guard=none∨∃g wa,o.guard=some (g,wa)∧zhk ops g (zal x.tm)=some wa)
   (he:zyo ro dp J P o (zal x.tm) (e.mr (zap x.mm)) (x.nx+64*i) e.res (e.mw (zap x.mm)))
   (h:CI ro dp J P nt R (.ops ops rest (i+1) (ft++[e.foot]) draw::k) (x.app o.dst e)):CI ro dp J P nt R (.ops ops (o::rest) i ft draw::k) x
 |opSkip {ops:Array Oper} {o:Oper} {rest:List Oper} {i:Nat} {ft:List (List Nat×List Nat)} {draw:Bool} {k:List It} {x:X} {g:Nat} {wa:Bool} {y:Value} (hdst:ze7 nt o.dst=true)
   (hg:o.guard=some (g,wa)) (hb:gvv ops g (zal x.tm)=some y) (hne:yb y≠some wa)
   (h:CI ro dp J P nt R (.ops ops rest (i+1) (ft++[([],[])]) draw::k) (x.app o.dst ⟨.d (.v undef),[],[]⟩)):CI ro dp J P nt R (.ops ops (o::rest) i ft draw::k) x
 |weak {k:List It} {x y:X} (hk:zay k=true) (hs:∀(E:Ctx) a w,Rel E x.den a w→Rel E y.den a w) (h:CI ro dp J P nt R k y):CI ro dp J P nt R k x
 |cut {k:List It} {x:X} (hk:zay k=true) (h:∀E:Ctx,E.P=P→E.nt=nt→(∀s σ I a w,RelAt E s σ I a w→J σ I w)→∀a w,Rel E x.den a w→aftI ro dp J E k (zjx E R) .normal a w):CI ro dp J P nt R k x
theorem zm8 {E:Ctx}{Q:Fin}{id:Nat}{a:Act}{w:World}:∀{k k':List It},zp3 id k=some k'→aftI ro dp J E k' Q .normal a w→aftI ro dp J E k Q (.exit id) a w
 |[],_,h,_=>by cases h
 |i::k,k',h,hq=>by
  cases i with
  |blk j=>
   simp only[zp3]at h;simp only[aftI];split at h
   ·rename_i e;cases h;subst e;simp;exact hq
   ·rename_i e;rw[if_neg fun x=>e x.symm];exact zm8 h hq
  |_=>simp only[zp3]at h;simp only[aftI];exact zm8 h hq
theorem qcy {E:Ctx}{Q:Fin}{a:Act}{w:World}:∀(k:List It),Q .ret a w→aftI ro dp J E k Q .ret a w
 |[],h=>h
 |i::k,h=>by cases i<;>(simp only[aftI];exact qcy k h)
theorem zyj {E:Ctx}{Q:Fin}{l:Nat}{a:Act}{w:World}:∀(k:List It),Q (.goto l) a w→aftI ro dp J E k Q (.goto l) a w
 |[],h=>h
 |i::k,h=>by cases i<;>(simp only[aftI];exact zyj k h)
theorem zsu {E:Ctx}{Q:Fin}{l:List PanicEntry}{a:Act}{w:World}:∀(k:List It),Q (.panic l) a w→aftI ro dp J E k Q (.panic l) a w
 |[],h=>h
 |i::k,h=>by cases i<;>(simp only[aftI];exact zsu k h)
theorem qrq {E:Ctx}{ops:Array Oper}{Q:Exit→Act→World→Prop}{effs:Nat→Eff}{nx:Nat}{s:S}{n:Nat}(hn:n<ops.size)
  (hok:∀i o,i<n→ops[i]? =some o→OkAtI ro dp J E ops o (after ops effs nx s (fun _=>true) i) (nx+64*i) (effs i)) (hfr:∀b,nx≤b→s.fr b) (hJ:∀s σ I a w,RelAt E s σ I a w→J σ I w)
  (hQ:∀a w,Rel E (after ops effs nx s (fun _=>true) n) a w→wpOpsIn (FW ro) dp E.P ops Q (List.range' n (ops.size-n)) a w):
  ∀m i,i+m=n→∀a w,Rel E (after ops effs nx s (fun _=>true) i) a w→wpOpsIn (FW ro) dp E.P ops Q (List.range' i (ops.size-i)) a w:=by
 intro m;induction m with
 |zero=>intro i hi a w hr;obtain rfl:i=n:=by omega
        exact hQ a w hr
 |succ m ih=>
  intro i hi a w hr;have ho:ops[i]? =some ops[i]:=Array.getElem?_eq_getElem (by omega);rw[show ops.size-i=(ops.size-(i+1))+1 by omega,List.range'_succ,wpOpsIn_cons];refine zs2 ho (hok i _ (by omega) ho) (fun b hb=>?_) hr hJ (fun a' w' hr'=>ih (i+1) (by omega) a' w' ?_)
  ·rw[zme];exact⟨hfr b (by have:=hb.1;omega),fun j hj _ hj'=>by have:=hb.1;have:=hj'.2;omega⟩
  ·simp only[after,if_true,ho];exact hr'
theorem qm7 {ops:Array Oper}{g:Nat}{tm:Nat→AV}{y:Value}(h:gvv ops g tm=some y):∃p d,ops[g]? =some p∧p.dst=some d∧tm d=.d (.v y):=by
 unfold gvv at h;split at h
 ·rename_i p hp;split at h
  ·rename_i d hd;split at h
   ·rename_i z hz;cases h;exact⟨p,d,hp,hd,hz⟩
   ·cases h
  ·cases h
 ·cases h
theorem qef {ops:Array Oper}{g:Nat}{tm:Nat→AV}{b:Bool}(h:zhk ops g tm=some b):∃p d,ops[g]? =some p∧p.dst=some d∧tm d=.d (.v (.bool b)):=by
 unfold zhk at h;split at h
 ·split at h
  ·split at h
   ·cases h;exact⟨_,_,‹_›,‹_›,‹_›⟩
   ·cases h
  ·cases h
 ·cases h
theorem Rel.fr {E:Ctx}{s s':S}{a:Act}{w:World}(h:Rel E s a w)(h1:s'.tm=s.tm)(h2:s'.mm=s.mm)(h3:∀b,s'.fr b→s.fr b):Rel E s' a w:=by
 obtain⟨σ,I,h⟩:=h;refine⟨σ,I,h.size,h.dfs,by rw[h1];exact h.tm,by rw[h2];exact h.mm,fun b hb=>h.free b (h3 b hb),h.ib,h.i0,h.inew,by rw[h2];exact h.mine,h.os,h.tape,h.output,h.hs,h.frame,h.keep,h.low⟩
theorem qcx {ops:Array Oper}{nx:Nat}{s0:S}{tr tr':List Eff}:∀(i:Nat),(∀j,j<i→tr.getD j ⟨.any,[],[]⟩=tr'.getD j ⟨.any,[],[]⟩)→
  after ops (fun j=>tr.getD j ⟨.any,[],[]⟩) nx s0 (fun _=>true) i=after ops (fun j=>tr'.getD j ⟨.any,[],[]⟩) nx s0 (fun _=>true) i
 |0,_=>rfl
 |i+1,h=>by
  simp only[after,if_true,h i (by omega)];rw[qcx i (fun j hj=>h j (by omega))]
def regStI (ro:Option Nat)(dp:Nat)(J:Names→(Nat→Prop)→World→Prop)(E:Ctx)(ops:Array Oper)(s0:S)(nx:Nat)(tr:List Eff)(i:Nat)(x:X):Prop:=
 tr.length=i∧x.nx=nx∧x.den.tm=(after ops (fun j=>tr.getD j ⟨.any,[],[]⟩) nx s0 (fun _=>true) i).tm∧
  x.den.mm=(after ops (fun j=>tr.getD j ⟨.any,[],[]⟩) nx s0 (fun _=>true) i).mm∧
  ∀j o,j<i→ops[j]? =some o→OkAtI ro dp J E ops o (after ops (fun j=>tr.getD j ⟨.any,[],[]⟩) nx s0 (fun _=>true) j) (nx+64*j) (tr.getD j ⟨.any,[],[]⟩)
theorem regStI.next {E:Ctx}{ops:Array Oper}{s0:S}{nx:Nat}{tr:List Eff}{i:Nat}{x:X}(h:regStI ro dp J E ops s0 nx tr i x){o:Oper}(ho:ops[i]? =some o){e:Eff}
  (hok:OkAtI ro dp J E ops o (after ops (fun j=>tr.getD j ⟨.any,[],[]⟩) nx s0 (fun _=>true) i) (nx+64*i) e):regStI ro dp J E ops s0 nx (tr++[e]) (i+1) (x.app o.dst e):=by
 obtain⟨h1,h2,h3,h4,h5⟩:=h;have hold:∀j,j<i→(tr++[e]).getD j ⟨.any,[],[]⟩=tr.getD j ⟨.any,[],[]⟩:=fun j hj=>by
  simp[List.getD,List.getElem?_append_left (show j<tr.length by omega)]
 have hnew:(tr++[e]).getD i ⟨.any,[],[]⟩=e:=by
  simp[List.getD,←h1]
 have ha:∀j,j≤i→after ops (fun j=>(tr++[e]).getD j ⟨.any,[],[]⟩) nx s0 (fun _=>true) j=after ops (fun j=>tr.getD j ⟨.any,[],[]⟩) nx s0 (fun _=>true) j:=
  fun j hj=>qcx j (fun q hq=>hold q (by omega))
 refine⟨by simp[h1],h2,?_,?_,fun j o' hj hj'=>?_⟩
 ·rw[(X.den_app x o.dst e).1];simp only[after,if_true,ha i (Nat.le_refl _),ho,Option.bind_some,S.app,hnew,h3]
 ·rw[(X.den_app x o.dst e).2];simp only[after,if_true,ha i (Nat.le_refl _),ho,Option.bind_some,S.app,hnew,h4]
 ·rw[ha j (by omega)];by_cases e':j=i
  ·subst e';rw[ho]at hj';cases hj';rw[hnew];exact hok
  ·rw[hold j (by omega)];exact h5 j o' (by omega) hj'
theorem zev {P:Program}{nt:Nat}{R:Exit→X→Prop}(hm:P.follows .mixedOrders=true){k:List It}{x:X}(h:CI ro dp J P nt R k x):
  ∀E:Ctx,E.P=P→E.nt=nt→(∀s σ I a w,RelAt E s σ I a w→J σ I w)→
   ((zay k=true→∀a w,Rel E x.den a w→aftI ro dp J E k (zjx E R) .normal a w)∧
    ∀ops rest i ft draw k',k=.ops ops rest i ft draw::k'→zay k'=true→∀tr s0 nx,tr.map Eff.foot=ft→ops.toList.drop i=rest→i≤ops.size→regStI ro dp J E ops s0 nx tr i x→(∀b,nx≤b→s0.fr b)→
     ∀a w id,Rel E s0 a w→(Code.region id ops draw).wpIn (FW ro) dp P (aftI ro dp J E k' (zjx E R)) a w):=by
 induction h with
 |fin h=>exact fun E hP hn hJ=>⟨fun _ a w hr=>⟨_,hr,h⟩,fun _ _ _ _ _ _ h=>by cases h⟩
 |stop h=>exact fun E hP hn hJ=>⟨fun _ a w hr=>⟨_,hr,h⟩,fun _ _ _ _ _ _ h=>by cases h⟩
 |blk h ih=>exact fun E hP hn hJ=>⟨fun hc a w hr=>(ih E hP hn hJ).1 (by simpa[zay,zds]using hc) a w hr,fun _ _ _ _ _ _ h=>by cases h⟩
 |skip h ih=>exact fun E hP hn hJ=>⟨fun hc a w hr=>wpIn_skip ((ih E hP hn hJ).1 (by simpa[zay,zds]using hc) a w hr),fun _ _ _ _ _ _ h=>by cases h⟩
 |label h ih=>exact fun E hP hn hJ=>⟨fun hc a w hr=>wpIn_label ((ih E hP hn hJ).1 (by simpa[zay,zds]using hc) a w hr),fun _ _ _ _ _ _ h=>by cases h⟩
 | @seq c d k x h ih=>
   refine fun E hP hn hJ=>⟨fun hc a w hr=>wpIn_seq ?_,fun _ _ _ _ _ _ h=>by cases h⟩
   have:=(ih E hP hn hJ).1 (by simpa[zay,zds]using hc) a w hr;simp only[aftI]at this;refine wpIn_mono this (fun e a w h=>?_);cases e<;>simp only[aftI,Exit.then]at h⊢<;>exact h
 | @block id c k x h ih=>
   refine fun E hP hn hJ=>⟨fun hc a w hr=>wpIn_block ?_,fun _ _ _ _ _ _ h=>by cases h⟩
   have:=(ih E hP hn hJ).1 (by simpa[zay,zds]using hc) a w hr;simp only[aftI]at this;refine wpIn_mono this (fun e a w h=>?_);cases e<;>simp only[aftI,Exit.inBlock]at h⊢<;>exact h
 | @cond o c d k x t ho h1 h2 ih1 ih2=>
   refine fun E hP hn hJ=>⟨fun hc a w hr=>?_,fun _ _ _ _ _ _ h=>by cases h⟩
   have hv:a.eval o=.bool t:=by
    obtain⟨σ,I,hr⟩:=hr;exact zu2 (ho▸zaz (tm:=x.den.tm) fun s e=>hr.tm s)
   cases t with
   |true=>exact wpIn_cond_true hv ((ih1 rfl E hP hn hJ).1 (by simpa[zay,zds]using hc) a w hr)
   |false=>exact wpIn_cond_false hv ((ih2 rfl E hP hn hJ).1 (by simpa[zay,zds]using hc) a w hr)
 | @condAb o c d k x ho h1 h2 ih1 ih2=>
   refine fun E hP hn hJ=>⟨fun hc a w hr=>?_,fun _ _ _ _ _ _ h=>by cases h⟩
   obtain⟨t,hv⟩:∃t,a.eval o=.bool t:=by
    obtain⟨σ,I,hr⟩:=hr;have:=zaz (σ:=σ) (I:=I) (w:=w) (tm:=x.den.tm) (a:=a) (x:=o) fun s e=>hr.tm s;rw[show ev x.den.tm o=.ab from ho]at this;generalize a.eval o=u at this;cases this with
    |ab t=>exact⟨t,rfl⟩
   cases t with
   |true=>exact wpIn_cond_true hv ((ih1 E hP hn hJ).1 (by simpa[zay,zds]using hc) a w hr)
   |false=>exact wpIn_cond_false hv ((ih2 E hP hn hJ).1 (by simpa[zay,zds]using hc) a w hr)
 |exit hp h ih=>exact fun E hP hn hJ=>⟨fun hc a w hr=>wpIn_exit (zm8 hp ((ih E hP hn hJ).1 (zca (by simpa[zay,zds]using hc) hp) a w hr)),fun _ _ _ _ _ _ h=>by cases h⟩
 |ret h=>exact fun E hP hn hJ=>⟨fun _ a w hr=>wpIn_ret (by exact qcy _ ⟨_,hr,h⟩),fun _ _ _ _ _ _ h=>by cases h⟩
 |loop h=>exact fun E hP hn hJ=>⟨fun _ a w hr=>by subst hP;exact h E rfl hn hJ a w hr,fun _ _ _ _ _ _ h=>by cases h⟩
 | @region id ops draw k x h ih=>
   refine fun E hP hn hJ=>⟨fun hc a w hr=>?_,fun _ _ _ _ _ _ h=>by cases h⟩
   have:=(ih E hP hn hJ).2 ops ops.toList 0 [] draw k rfl (by simpa[zay,zds]using hc) [] x.den x.nx rfl rfl (Nat.zero_le _) ⟨rfl,rfl,rfl,rfl,fun j o hj=>by omega⟩ (fun b hb=>hb) a w id hr;subst hP;exact this
 | @opEnd ops i ft draw k x hd h ih=>
   refine fun E hP hn hJ=>⟨fun hc=>by simp[zay,zds]at hc,fun ops' rest' i' ft' draw' k' he hc tr s0 nx hft hdrop hle hst hfr a w id hr=>?_⟩
   cases he;subst hft;have hi:i=ops.size:=by
    have:=congrArg List.length hdrop;simp at this;omega
   subst hi;obtain⟨g1,g2,g3,g4,g5⟩:=hst;subst hP;have hok:∀j o,ops[j]? =some o→OkAtI ro dp J E ops o (after ops (fun j=>tr.getD j ⟨.any,[],[]⟩) nx s0 (fun _=>true) j) (nx+64*j) (tr.getD j ⟨.any,[],[]⟩):=
    fun j o hj=>g5 j o (Array.getElem?_eq_some_iff.1 hj).1 hj
   have hQ:∀a w,Rel E (after ops (fun j=>tr.getD j ⟨.any,[],[]⟩) nx s0 (fun _=>true) ops.size) a w→aftI ro dp J E k (zjx E R) .normal a w:=by
    intro a w hr';refine(ih E rfl hn hJ).1 hc a w (hr'.fr g3 g4 (fun b hb=>?_));rw[zme];have hb':x.nx+64*ops.size≤b:=hb;rw[g2]at hb';exact⟨hfr b (by omega),fun j hj _ hf=>by have:=hf.2;omega⟩
   cases draw with
   |false=>exact zy6 hok hfr hJ hr hQ
   |true=>
    obtain⟨pre,q1,q2⟩:=hd rfl;exact zy7 hm _ (zxx q1) (qem q1 g1 q2) hok hfr hJ hr hQ
 | @op ops o rest i ft draw k x e hdst hg he h ih=>
   refine fun E hP hn hJ=>⟨fun hc=>by simp[zay,zds]at hc,fun ops' rest' i' ft' draw' k' hee hc tr s0 nx hft hdrop hle hst hfr a w id hr=>?_⟩
   cases hee;subst hft;have hlt:i<ops.size:=by
    have:=congrArg List.length hdrop;simp at this;omega
   have ho:ops[i]? =some o:=by
    have:(ops.toList.drop i)[0]? =some o:=by rw[hdrop];rfl
    simpa using this
   have hdrop':ops.toList.drop (i+1)=rest:=by
    have:=congrArg List.tail hdrop;simpa[List.tail_drop]using this
   refine(ih E hP hn hJ).2 ops rest (i+1) _ draw k rfl hc (tr++[e]) s0 nx (by simp) hdrop' hlt (hst.next ho ?_) hfr a w id hr;subst hP;subst hn;obtain⟨g1,g2,g3,g4,g5⟩:=hst;refine⟨fun d hd=>by simpa[ze7,hd]using hdst,?_⟩;rw[←g3,←g4,←g2];rcases hg with hg|⟨g,wa,hg,hb⟩
   ·exact .inl ⟨hg,he⟩
   ·obtain⟨p,d,p1,p2,p3⟩:=qef hb;exact .inr ⟨g,wa,p,d,.bool wa,hg,p1,p2,p3,.inl ⟨rfl,he⟩⟩
 | @opSkip ops o rest i ft draw k x g wa y hdst hg hb hne h ih=>
   refine fun E hP hn hJ=>⟨fun hc=>by simp[zay,zds]at hc,fun ops' rest' i' ft' draw' k' hee hc tr s0 nx hft hdrop hle hst hfr a w id hr=>?_⟩
   cases hee;subst hft;have hlt:i<ops.size:=by
    have:=congrArg List.length hdrop;simp at this;omega
   have ho:ops[i]? =some o:=by
    have:(ops.toList.drop i)[0]? =some o:=by rw[hdrop];rfl
    simpa using this
   have hdrop':ops.toList.drop (i+1)=rest:=by
    have:=congrArg List.tail hdrop;simpa[List.tail_drop]using this
   refine(ih E hP hn hJ).2 ops rest (i+1) _ draw k rfl hc (tr++[⟨.d (.v undef),[],[]⟩]) s0 nx (by simp[Eff.foot]) hdrop' hlt (hst.next ho ?_) hfr a w id hr;subst hP;subst hn;obtain⟨g1,g2,g3,g4,g5⟩:=hst;refine⟨fun d hd=>by simpa[ze7,hd]using hdst,?_⟩;obtain⟨p,d,p1,p2,p3⟩:=qm7 hb;refine .inr ⟨g,wa,p,d,y,hg,p1,p2,?_,.inr ⟨hne,rfl⟩⟩;rw[←g3];exact p3
 |goto h=>exact fun E hP hn hJ=>⟨fun _ a w hr=>wpIn_goto (by exact zyj _ ⟨_,hr,h⟩),fun _ _ _ _ _ _ h=>by cases h⟩
 | @opPan ops o rest i ft k x y ch hg hpl he h=>
   refine fun E hP hn hJ=>⟨fun hc=>by simp[zay,zds]at hc,fun ops' rest' i' ft' draw' k' hee hc tr s0 nx hft hdrop hle hst hfr a w id hr=>?_⟩
   cases hee;subst hft;have hlt:i<ops.size:=by
    have:=congrArg List.length hdrop;simp at this;omega
   have ho:ops[i]? =some o:=by
    have:(ops.toList.drop i)[0]? =some o:=by rw[hdrop];rfl
    simpa using this
   obtain⟨g1,g2,g3,g4,g5⟩:=hst;subst hP;refine wpIn_region ?_;rw[List.range_eq_range'];refine qrq hlt g5 hfr hJ (fun a w hr'=>?_) i 0 (by omega) a w hr;rw[show ops.size-i=(ops.size-(i+1))+1 by omega,List.range'_succ,wpOpsIn_cons];unfold wpOpIn;have hw:Region.wanted o (yielded ops a.tmps)=true:=by simp[Region.wanted,hg]
   simp only[ho,hw,if_true];refine qpg hpl (he E _ a w rfl hn g3.symm g4.symm (fun b hb=>?_) hr' _ _ fun a' w' h'=>zsu k ⟨y,h',h⟩);rw[zme];exact⟨hfr b (by omega),fun j hj _ hf=>by have:=hf.2;omega⟩
 |weak hk hs h ih=>
  refine fun E hP hn hJ=>⟨fun hc a w hr=>(ih E hP hn hJ).1 hc a w (hs E a w hr),fun ops' rest' i' tr' draw' k' hee=>?_⟩;subst hee;simp[zay,zds]at hk
 |cut hk h=>
  refine fun E hP hn hJ=>⟨fun hc a w hr=>h E hP hn hJ a w hr,fun ops' rest' i' tr' draw' k' hee=>?_⟩;subst hee;simp[zay,zds]at hk
end
def zba (ops:Array Oper)(ft:List (List Nat×List Nat)):Prop:=zsk ops (preL ops.toList)=true∧qcb (preL ops.toList) ft=true
instance (ops:Array Oper) (ft:List (List Nat×List Nat)):Decidable (zba ops ft):=inferInstanceAs (Decidable (_∧_))
def gval (ops:Array Oper)(g:Nat)(tm:Nat→AV):AV:=
 match ops[g]? with
 |some p=>match p.dst with
  |some d=>tm d
  |none=>.any
 |none=>.any
theorem zkq {ops:Array Oper}{g:Nat}{tm:Nat→AV}{y:Value}(h:gval ops g tm=.d (.v y)):gvv ops g tm=some y:=by
 unfold gval at h;unfold gvv;split at h
 ·split at h
  ·simp[*]
  ·cases h
 ·cases h
theorem zl1 {ops:Array Oper}{g:Nat}{tm:Nat→AV}{b:Bool}(h:gval ops g tm=.d (.v (.bool b))):zhk ops g tm=some b:=by
 unfold gval at h;unfold zhk;split at h
 ·split at h
  ·simp[*]
  ·cases h
 ·cases h
def good :List It→Bool
 |[]=>true
 |_::k=>zay k
theorem zcu :∀{k:List It},zay k=true→good k=true
 |[],_=>rfl
 |_::k,h=>by simp only[zay,List.all_cons,Bool.and_eq_true]at h;exact h.2
section
variable {ro : Option Nat} {dp : Nat} {J : Names → (Nat → Prop) → World → Prop}
noncomputable def runI (ro:Option Nat)(dp:Nat)(J:Names→(Nat→Prop)→World→Prop)(P:Program)(nt:Nat)(R:Exit→X→Prop)(st:Nat):Nat→List It→X→Prop
 |0,_,_=>False
 |_+1,[],x=>R .normal x
 |_+1,.stop B::_,x=>B x
 |n+1,.blk _::k,x=>runI ro dp J P nt R st n k x
 |n+1,.br v a b::k,x=>match v with
  |.d (.v (.bool true))=>runI ro dp J P nt R st n (.code a::k) x
  |.d (.v (.bool false))=>runI ro dp J P nt R st n (.code b::k) x
  |.ab=>runI ro dp J P nt R st n (.code a::k) x∧runI ro dp J P nt R st n (.code b::k) x
  |_=>False
 |n+1,.ops ops rest i ft d::k,x=>match rest with
  |[]=>if d then(zba ops ft∧runI ro dp J P nt R st n k ⟨x.tm,x.mm,x.nx+64*i⟩)else runI ro dp J P nt R st n k ⟨x.tm,x.mm,x.nx+64*i⟩
  |o::rest=>match o.guard with
   |none=>runI ro dp J P nt R st n (.eff (absC P o (zal x.tm) (zap x.mm) (x.nx+64*i)) ops o rest i ft d::k) x
   |some (g,wa)=>runI ro dp J P nt R st n (.gd (gval ops g (zal x.tm)) wa ops o rest i ft d::k) x
 |n+1,.gd v wa ops o rest i ft d::k,x=>match v with
  |.d (.v (.bool true))=>if wa then runI ro dp J P nt R st n (.eff (absC P o (zal x.tm) (zap x.mm) (x.nx+64*i)) ops o rest i ft d::k) x
   else(ze7 nt o.dst=true∧runI ro dp J P nt R st n (.ops ops rest (i+1) (ft++[([],[])]) d::k) (x.app o.dst ⟨.d (.v undef),[],[]⟩))
  |.d (.v (.bool false))=>if wa then(ze7 nt o.dst=true∧runI ro dp J P nt R st n (.ops ops rest (i+1) (ft++[([],[])]) d::k) (x.app o.dst ⟨.d (.v undef),[],[]⟩))
   else runI ro dp J P nt R st n (.eff (absC P o (zal x.tm) (zap x.mm) (x.nx+64*i)) ops o rest i ft d::k) x
  |.d (.v (.tuple _))=>ze7 nt o.dst=true∧runI ro dp J P nt R st n (.ops ops rest (i+1) (ft++[([],[])]) d::k) (x.app o.dst ⟨.d (.v undef),[],[]⟩)
  |_=>False
 |n+1,.eff r ops o rest i ft d::k,x=>match r with
  |some (sc,e)=>sc∧ze7 nt o.dst=true∧runI ro dp J P nt R st n (.ops ops rest (i+1) (ft++[e.foot]) d::k) (x.app o.dst e)
  |none=>CI ro dp J P nt R (.ops ops (o::rest) i ft d::k) x
 |n+1,.code c::k,x=>match c with
  |.skip=>runI ro dp J P nt R st n k x
  |.label _=>runI ro dp J P nt R st n k x
  |.seq a b=>runI ro dp J P nt R st n (.code a:: .code b::k) x
  |.block id a=>runI ro dp J P nt R st n (.code a:: .blk id::k) x
  |.cond o a b=>runI ro dp J P nt R st n (.br (ev (zal x.tm) o) a b::k) x
  |.region id ops d=>if id=st then CI ro dp J P nt R (.code (.region id ops d)::k) x else runI ro dp J P nt R st n (.ops ops ops.toList 0 [] d::k) x
  |.ret=>R .ret x
  |.exit id=>match zp3 id k with
   |some k'=>runI ro dp J P nt R st n k' x
   |none=>False
  |.loop a=>LoopI ro dp J P nt R a k x
  |_=>False
def qi6 (ro:Option Nat)(dp:Nat)(J:Names→(Nat→Prop)→World→Prop)(P:Program)(nt:Nat)(R:Exit→X→Prop)(x:X):List It→Prop
 |.br v a b::k=>∀o,ev (zal x.tm) o=v→CI ro dp J P nt R (.code (.cond o a b)::k) x
 |.gd v wa ops o rest i ft d::k=>∀g,o.guard=some (g,wa)→gval ops g (zal x.tm)=v→CI ro dp J P nt R (.ops ops (o::rest) i ft d::k) x
 |.eff r ops o rest i ft d::k=>(o.guard=none∨∃g wa,o.guard=some (g,wa)∧zhk ops g (zal x.tm)=some wa)→absC P o (zal x.tm) (zap x.mm) (x.nx+64*i)=r→CI ro dp J P nt R (.ops ops (o::rest) i ft d::k) x
 |k=>CI ro dp J P nt R k x
theorem zsx {P:Program}{o:Oper}{tm:Nat→AV}{mem:Mem}{nx:Nat}{r:Prop×Eff}(h:absC P o tm mem nx=some r):zfd o=true:=by
 unfold zfd;split
 ·rename_i c hc;simp[absC,qki,zyn,zyl,zsv,absG,qkj,hc]at h;cases hg:gvOf tm o<;>simp[hg]at h
 ·rfl
theorem zep {P:Program}{nt:Nat}{R:Exit→X→Prop}{x:X}:∀{k:List It},zay k=true→qi6 ro dp J P nt R x k→CI ro dp J P nt R k x
 |[],_,h=>h
 |.stop _::_,_,h=>h
 |.blk _::_,_,h=>h
 |.code _::_,_,h=>h
 |.ops _ _ _ _ _::_,_,h=>h
 |.br _ _ _::_,h,_=>by simp[zay,zds]at h
 |.gd _ _ _ _ _ _ _ _::_,h,_=>by simp[zay,zds]at h
 |.eff _ _ _ _ _ _ _::_,h,_=>by simp[zay,zds]at h
theorem zry {P:Program}{nt:Nat}{R:Exit→X→Prop}{st:Nat}:∀(n:Nat) (k:List It) (x:X),good k=true→runI ro dp J P nt R st n k x→qi6 ro dp J P nt R x k:=by
 intro n;induction n with
 |zero=>intro k x _ h;exact h.elim
 |succ n ih=>
  intro k x hg h
  match k,hg,h with
  |[],_,h=>exact .fin h
  |.stop B::k,_,h=>exact .stop h
  |.blk id::k,hg,h=>exact .blk (zep hg (ih k x (zcu hg) h))
  |.br v a b::k,hg,h=>
   intro o ho;simp only[runI]at h;split at h
   ·exact .cond ho (fun _=>ih _ x (by exact hg) h) (fun e=>by cases e)
   ·exact .cond ho (fun e=>by cases e) (fun _=>ih _ x (by exact hg) h)
   ·exact .condAb ho (ih _ x (by exact hg) h.1) (ih _ x (by exact hg) h.2)
   ·exact h.elim
  |.ops ops rest i ft d::k,hg,h=>
   simp only[runI]at h;split at h
   ·split at h
    ·exact .opEnd (fun _=>⟨_,h.1.1,h.1.2⟩) (zep hg (ih k _ (zcu hg) h.2))
    ·rename_i hd;exact .opEnd (fun e=>absurd e (by simpa using hd)) (zep hg (ih k _ (zcu hg) h))
   ·split at h
    ·exact ih _ x (by exact hg) h (.inl ‹_›) rfl
    ·exact ih _ x (by exact hg) h _ ‹_› rfl
  |.gd v wa ops o rest i ft d::k,hg,h=>
   intro g hgd hv;simp only[runI]at h;split at h
   ·split at h
    ·rename_i hwa;exact ih _ x (by exact hg) h (.inr ⟨g,wa,hgd,by rw[zl1 hv,hwa]⟩) rfl
    ·rename_i hwa;exact .opSkip h.1 hgd (zkq hv) (by intro e;simp only[yb,Option.some.injEq]at e;exact hwa e.symm) (ih _ _ (by exact hg) h.2)
   ·split at h
    ·rename_i hwa;exact .opSkip h.1 hgd (zkq hv) (by intro e;rw[hwa]at e;cases e) (ih _ _ (by exact hg) h.2)
    ·rename_i hwa;refine ih _ x (by exact hg) h (.inr ⟨g,wa,hgd,?_⟩) rfl;rw[zl1 hv];cases wa
     ·rfl
     ·exact absurd rfl hwa
   ·exact .opSkip h.1 hgd (zkq hv) (by intro e;cases e) (ih _ _ (by exact hg) h.2)
   ·exact h.elim
  |.eff r ops o rest i ft d::k,hg,h=>
   intro hgd hr;simp only[runI]at h;split at h
   ·exact .op _ h.2.1 hgd ((zsw hr h.1).toI (zsx hr)) (ih _ _ (by exact hg) h.2.2)
   ·exact h
  |.code c::k,hg,h=>
   have hck:∀c',zay (.code c'::k)=true:=fun c'=>by simp only[zay,List.all_cons,zds,Bool.not_false,Bool.true_and];exact hg
   simp only[runI]at h;split at h
   ·exact .skip (zep hg (ih k x (zcu hg) h))
   ·exact .label (zep hg (ih k x (zcu hg) h))
   ·exact .seq (ih _ x (by exact hck _) h)
   ·exact .block (ih _ x (by simp only[good,zay,List.all_cons,zds,Bool.not_false,Bool.true_and];exact hg) h)
   ·rename_i o a b;exact ih _ x (by exact hg) h o rfl
   ·split at h
    ·exact h
    ·exact .region (ih _ x (by exact hg) h)
   ·exact .ret h
   ·split at h
    ·rename_i k' hp;exact .exit hp (zep (zca hg hp) (ih _ x (zcu (zca hg hp)) h))
    ·exact h.elim
   ·exact .loop h
   ·exact h.elim
theorem CI.run {P:Program}{nt:Nat}{R:Exit→X→Prop}(st n:Nat){k:List It}{x:X}(hc:zay k=true)(h:AI.runI ro dp J P nt R st n k x):CI ro dp J P nt R k x:=
 zep hc (zry n k x (zcu hc) h)
theorem CI.runOps {P:Program}{nt:Nat}{R:Exit→X→Prop}(st n:Nat){ops:Array Oper}{rest:List Oper}{i:Nat}{ft:List (List Nat×List Nat)}{d:Bool}{k:List It}{x:X}(hc:zay k=true)
  (h:AI.runI ro dp J P nt R st n (.ops ops rest i ft d::k) x):CI ro dp J P nt R (.ops ops rest i ft d::k) x:=
 zry n _ x (by exact hc) h
end
def inA (p:Nat→Bool):AV→Bool
 |.d _=>true
 |.any=>true
 |.ab=>true
 |.ptr b _=>p b
 |.own b=>p b
 |.prow b _ _ _=>p b
 |.sl b _ _ _=>p b
 |.agg cs=>inL cs
 |.tup cs=>inL cs
 |.fn _ a b=>inL a&&inL b
 |.ifc _ x=>inA p x
where inL:List AV→Bool
 |[]=>true
 |x::r=>inA p x&&inL r
def inB (p:Nat→Bool):Blk→Bool
 |.cells cs _=>inA.inL p cs
 |.mapO _ _ _ _ _ c=>p c
 |.grp ps _=>ps.all p
 |_=>true
theorem zff {p:Nat→Bool}:∀{l:List AV},inA.inL p l=true→∀(i:Nat) c,l[i]? =some c→inA p c=true
 |[],_,i,c,h=>by simp at h
 |x::r,hn,i,c,h=>by
  simp only[inA.inL,Bool.and_eq_true]at hn;cases i with
  |zero=>simp at h;rw[←h];exact hn.1
  |succ i=>exact zff hn.2 i c (by simpa using h)
def Blk.ren (g:Nat→Nat):Blk→Blk
 |.cells cs T=>.cells (cs.map (AV.ren g)) T
 |.mapO ka ks va look kc c=>.mapO ka ks va look kc (g c)
 |.grp ps T=>.grp (ps.map g) T
 |k=>k
section
variable {σ σ0 : Names} {I : Nat → Prop} {w : World} {g : Nat → Nat} {p : Nat → Bool}
theorem qcz (hs:∀b,p b=true→∀x,σ0 b=some x→σ (g b)=some x){a:AV}{v:Value}(h:RV σ0 I w a v)(hn:inA p a=true):RV σ I w (a.ren g) v:=by
 induction h with
 |d h=>simp only[AV.ren];exact .d h
 |any y=>simp only[AV.ren];exact .any y
 |ab t=>simp only[AV.ren];exact .ab t
 |ptr h=>simp only[AV.ren];exact .ptr (hs _ hn _ h)
 |own h h1=>simp only[AV.ren];exact .own (hs _ hn _ h) h1
 |prow h=>simp only[AV.ren];exact .prow (hs _ hn _ h)
 |sl h hs'=>simp only[AV.ren];exact .sl (hs _ hn _ h) hs'
 |agg hl _ ih=>
  simp only[AV.ren];refine .agg (by simpa using hl) (fun i c x h1 h2=>?_);simp only[List.getElem?_map]at h1;obtain⟨c',hc',rfl⟩:=Option.map_eq_some_iff.1 h1;exact ih i c' x hc' h2 (zff hn i c' hc')
 |tup hl _ ih=>
  simp only[AV.ren];refine .tup (by simpa using hl) (fun i c x h1 h2=>?_);simp only[List.getElem?_map]at h1;obtain⟨c',hc',rfl⟩:=Option.map_eq_some_iff.1 h1;exact ih i c' x hc' h2 (zff hn i c' hc')
 |fn hx hy _ _ i1 i2=>
  simp only[AV.ren];simp only[inA,Bool.and_eq_true]at hn;refine .fn (by simpa using hx) (by simpa using hy) (fun i c x h1 h2=>?_) (fun i c x h1 h2=>?_)
  ·simp only[List.getElem?_map]at h1;obtain⟨c',hc',rfl⟩:=Option.map_eq_some_iff.1 h1;exact i1 i c' x hc' h2 (zff hn.1 i c' hc')
  ·simp only[List.getElem?_map]at h1;obtain⟨c',hc',rfl⟩:=Option.map_eq_some_iff.1 h1;exact i2 i c' x hc' h2 (zff hn.2 i c' hc')
 |ifc _ ih=>simp only[AV.ren];exact .ifc (ih hn)
theorem zmf (hs:∀b,p b=true→∀x,σ (g b)=some x→σ0 b=some x){A:AV}{v:Value}(h:RV σ I w A v):∀{a:AV},A=a.ren g→inA p a=true→RV σ0 I w a v:=by
 induction h with
 |d h=>intro a e hn;cases a<;>simp[AV.ren]at e;subst e;exact .d h
 |any y=>intro a e hn;cases a<;>simp[AV.ren]at e;exact .any y
 |ab t=>intro a e hn;cases a<;>simp[AV.ren]at e;exact .ab t
 |ptr h=>intro a e hn;cases a<;>simp[AV.ren]at e;obtain⟨rfl,rfl⟩:=e;exact .ptr (hs _ hn _ h)
 |own h h1=>intro a e hn;cases a<;>simp[AV.ren]at e;subst e;exact .own (hs _ hn _ h) h1
 |prow h=>intro a e hn;cases a<;>simp[AV.ren]at e;obtain⟨rfl,rfl,rfl,rfl⟩:=e;exact .prow (hs _ hn _ h)
 |sl h hs'=>intro a e hn;cases a<;>simp[AV.ren]at e;obtain⟨rfl,rfl,rfl,rfl⟩:=e;exact .sl (hs _ hn _ h) hs'
 |agg hl _ ih=>
  intro a e hn;cases a<;>simp[AV.ren]at e;subst e;refine .agg (by simpa using hl) (fun i c x h1 h2=>?_);exact ih i (c.ren g) x (by simp[h1]) h2 rfl (zff hn i c h1)
 |tup hl _ ih=>
  intro a e hn;cases a<;>simp[AV.ren]at e;subst e;refine .tup (by simpa using hl) (fun i c x h1 h2=>?_);exact ih i (c.ren g) x (by simp[h1]) h2 rfl (zff hn i c h1)
 |fn hx hy _ _ i1 i2=>
  intro a e hn;cases a<;>simp[AV.ren]at e;obtain⟨rfl,rfl,rfl⟩:=e;simp only[inA,Bool.and_eq_true]at hn;refine .fn (by simpa using hx) (by simpa using hy) (fun i c x h1 h2=>?_) (fun i c x h1 h2=>?_)
  ·exact i1 i (c.ren g) x (by simp[h1]) h2 rfl (zff hn.1 i c h1)
  ·exact i2 i (c.ren g) x (by simp[h1]) h2 rfl (zff hn.2 i c h1)
 |ifc _ ih=>
  intro a e hn;cases a<;>simp[AV.ren]at e;obtain⟨rfl,rfl⟩:=e;exact .ifc (ih rfl hn)
theorem qof (hs:∀b,p b=true→∀x,σ0 b=some x→σ (g b)=some x){k:Blk}{v:Value}(h:RB σ0 I w k v)(hn:inB p k=true):RB σ I w (k.ren g) v:=by
 cases h with
 |cells hw hl hr=>
  refine .cells hw (by simpa using hl) (fun i c x h1 h2=>?_);simp only[List.getElem?_map]at h1;obtain⟨c',hc',rfl⟩:=Option.map_eq_some_iff.1 h1;exact qcz hs (hr i c' x hc' h2) (zff hn i c' hc')
 |none=>exact .none
 |emp a=>exact .emp a
 |grow h1 h2 h3 h4 h5 h6=>exact .grow h1 h2 h3 h4 h5 h6
 |map keys vals h1 h0 h2 h3 h4 h5=>exact .map keys vals h1 h0 h2 h3 h4 h5
 |mapO keys vals h1 hst h0 hkc hfk h2 h3 h4 h5=>exact .mapO keys vals h1 (hs _ hn _ hst) h0 hkc hfk h2 h3 h4 h5
 |iter h1 h2=>exact .iter h1 h2
 |gnone=>exact .gnone
 |gemp a=>exact .gemp a
 | @grp ps T n cap arr h1 h2 h3 h4 h5=>
   have:=RB.grp (σ:=σ) (I:=I) (ps:=ps.map g) (T:=T) h1 h2 (by simpa using h3) h4 (fun i b hi=>by
    rw[List.getElem?_map]at hi;obtain⟨b',hb',rfl⟩:=Option.map_eq_some_iff.1 hi;obtain⟨m,q1,q2⟩:=h5 i b' hb';exact⟨m,hs _ (List.all_eq_true.1 hn b' (List.mem_of_getElem? hb')) _ q1,q2⟩)
   rwa[List.length_map]at this
theorem zjs (hs:∀b,p b=true→∀x,σ (g b)=some x→σ0 b=some x){k:Blk}{v:Value}(h:RB σ I w (k.ren g) v)(hn:inB p k=true):RB σ0 I w k v:=by
 cases k with
 |cells cs T=>
  cases h with
  |cells hw hl hr=>
   refine .cells hw (by simpa using hl) (fun i c x h1 h2=>?_);exact zmf hs (hr i (c.ren g) x (by simp[h1]) h2) rfl (zff hn i c h1)
 |grow sz es T=>
  cases h with
  |none=>exact .none
  |emp a=>exact .emp a
  |grow h1 h2 h3 h4 h5 h6=>exact .grow h1 h2 h3 h4 h5 h6
 |map ka ks va look=>
  cases h with
  |map keys vals h1 h0 h2 h3 h4 h5=>exact .map keys vals h1 h0 h2 h3 h4 h5
 |mapO ka ks va look kc c=>
  cases h with
  |mapO keys vals h1 hst h0 hkc hfk h2 h3 h4 h5=>exact .mapO keys vals h1 (hs _ hn _ hst) h0 hkc hfk h2 h3 h4 h5
 |iter s pos=>
  cases h with
  |iter h1 h2=>exact .iter h1 h2
 |grp ps T=>
  change RB σ I w (.grp (ps.map g) T) v at h;generalize hq:ps.map g=qs at h;cases h with
  |gnone=>
   obtain rfl:ps=[]:=List.map_eq_nil_iff.1 hq;exact .gnone
  |gemp a=>
   obtain rfl:ps=[]:=List.map_eq_nil_iff.1 hq;exact .gemp a
  |grp h1 h2 h3 h4 h5=>
   subst hq;rw[List.length_map]at h3⊢;refine .grp h1 h2 h3 h4 (fun i b hi=>?_);obtain⟨m,q1,q2⟩:=h5 i (g b) (by rw[List.getElem?_map,hi];rfl);exact⟨m,hs _ (List.all_eq_true.1 hn b (List.mem_of_getElem? hi)) _ q1,q2⟩
end
def zac :List (Nat×Blk)→Nat→Option Blk
 |[],_=>none
 | (c,k)::r,b=>if c=b then some k else zac r b
theorem zav {l:List (Nat×Blk)}{b:Nat}{k:Blk}(h:zac l b=some k):(b,k)∈l:=by
 induction l with
 |nil=>cases h
 |cons p l ih=>
  obtain⟨c,q⟩:=p;simp only[zac]at h;split at h
  ·rename_i e;cases h;subst e;simp
  ·simp[ih h]
def CtF (G:(Nat→Prop)→World→Prop)(fin:Value→Ending)(P:Program)(f:FuncId)(args:List AV)(mr m:List (Nat×Blk))(res:AV)(m':List (Nat×Blk)):Prop:=
 ∀(σ:Names) (I:Nat→Prop) (w:World) (vs:List Value),G I w→(∀n,I n→n<w.heap.size)→vs.length=args.length→
  (∀(i:Nat) c x,args[i]? =some c→vs[i]? =some x→RV σ I w c x)→RM σ I w (zac (mr++m))→(∀b,64≤b→σ b=none)→
  Calls P f vs.toArray w fun e w'=>∃v σ' I',e=fin v∧Post σ I w (zac (mr++m)) 64 σ' I' w' (zac (mr++m'))∧RV σ' I' w' res v
def Ct (P:Program)(f:FuncId)(args:List AV)(mr m:List (Nat×Blk))(res:AV)(m':List (Nat×Blk)):Prop:=
 ∀(σ:Names) (I:Nat→Prop) (w:World) (vs:List Value),(∀n,I n→n<w.heap.size)→vs.length=args.length→
  (∀(i:Nat) c x,args[i]? =some c→vs[i]? =some x→RV σ I w c x)→RM σ I w (zac (mr++m))→(∀b,64≤b→σ b=none)→
  Calls P f vs.toArray w fun e w'=>∃v σ' I',e=.returned v∧Post σ I w (zac (mr++m)) 64 σ' I' w' (zac (mr++m'))∧RV σ' I' w' res v
theorem Ct.F {P:Program}{f:FuncId}{args:List AV}{mr m:List (Nat×Blk)}{res:AV}{m':List (Nat×Blk)}(h:Ct P f args mr m res m'):CtF (fun _ _=>True) .returned P f args mr m res m':=fun σ I w vs _=>h σ I w vs
def leDl (p:D→D→Prop):List D→List D→Prop
 |[],[]=>True
 |x::xs,y::ys=>p x y∧leDl p xs ys
 |_,_=>False
def leDL (p:D→D→Prop):List (List D)→List (List D)→Prop
 |[],[]=>True
 |x::xs,y::ys=>leDl p x y∧leDL p xs ys
 |_,_=>False
def leDn :Nat→D→D→Prop
 |_,.v (.slice none 0 0),.ro _ []=>True
 |n+1,.ro fc es,.ro fc' fs=>(fc'=true→fc=true)∧(es=fs∨leDL (leDn n) es fs)
 |_,a,b=>a=b
abbrev leD (a b:D):Prop:=leDn 4 a b
def leA :AV→AV→Prop
 |.d x,.d y=>leD x y
 |.agg xs,.agg ys=>leL xs ys
 |.tup xs,.tup ys=>leL xs ys
 |.d (.v (.bool _)),.ab=>True
 |_,.any=>True
 |a,b=>a=b
where leL:List AV→List AV→Prop
 |[],[]=>True
 |x::xs,y::ys=>leA x y∧leL xs ys
 |_,_=>False
theorem zlr {p:D→D→Prop}:∀{xs ys:List D},leDl p xs ys→xs.length=ys.length∧∀(i:Nat) x y,xs[i]? =some x→ys[i]? =some y→p x y
 |[],[],_=>⟨rfl,fun i x y h=>by simp at h⟩
 |x::xs,y::ys,h=>by
  obtain⟨h1,h2⟩:=zlr h.2;refine⟨by simp[h1],fun i a b ha hb=>?_⟩;cases i with
  |zero=>simp at ha hb;rw[←ha,←hb];exact h.1
  |succ i=>exact h2 i a b (by simpa using ha) (by simpa using hb)
 |[],_::_,h=>h.elim
 |_::_,[],h=>h.elim
theorem zub {p:D→D→Prop}:∀{xs ys:List (List D)},leDL p xs ys→xs.length=ys.length∧∀(i:Nat) x y,xs[i]? =some x→ys[i]? =some y→leDl p x y
 |[],[],_=>⟨rfl,fun i x y h=>by simp at h⟩
 |x::xs,y::ys,h=>by
  obtain⟨h1,h2⟩:=zub h.2;refine⟨by simp[h1],fun i a b ha hb=>?_⟩;cases i with
  |zero=>simp at ha hb;rw[←ha,←hb];exact h.1
  |succ i=>exact h2 i a b (by simpa using ha) (by simpa using hb)
 |[],_::_,h=>h.elim
 |_::_,[],h=>h.elim
theorem zxe {I:Nat→Prop}{w:World}:∀(n:Nat) {a b:D} {v:Value},leDn n a b→RD I w a v→RD I w b v:=by
 intro n;induction n with
 |zero=>
  intro a b v h hv;unfold leDn at h;split at h
  ·cases hv;exact .nil
  ·rename_i e;cases e
  ·subst h;exact hv
 |succ n ih=>
  intro a b v h hv;unfold leDn at h;split at h
  ·cases hv;exact .nil
  ·rename_i m fc es fc' fs e;obtain rfl:n=m:=by omega
   obtain⟨hf,rfl|hl⟩:=h
   ·cases hv with
    |nil=>exact .nil
    |emp=>exact .emp
    |ro val hI h1 h2 h3 h4 h5 h6 h7=>exact .ro val hI h1 h2 h3 (fun h=>h4 (hf h)) h5 h6 h7
   ·obtain⟨hll,hlg⟩:=zub hl;cases hv with
    |nil=>
     obtain rfl:fs=[]:=List.eq_nil_of_length_eq_zero (by simpa using hll.symm);exact .nil
    |emp=>
     obtain rfl:fs=[]:=List.eq_nil_of_length_eq_zero (by simpa using hll.symm);exact .emp
    | @ro sz _ _ blk off cap val hI h1 h2 h3 h4 h5 h6 h7=>
      have hg:∀(i:Nat) e (j:Nat) c,fs[i]? =some e→e[j]? =some c→∃e0 c0,es[i]? =some e0∧e0[j]? =some c0∧leDn n c0 c:=by
       intro i e j c he hc;have hi:i<es.length:=by rw[hll];exact(List.getElem?_eq_some_iff.1 he).1
       obtain⟨q1,q2⟩:=zlr (hlg i es[i] e (List.getElem?_eq_getElem hi) he);have hj:j<es[i].length:=by rw[q1];exact(List.getElem?_eq_some_iff.1 hc).1
       exact⟨es[i],es[i][j],List.getElem?_eq_getElem hi,List.getElem?_eq_getElem hj,q2 j _ c (List.getElem?_eq_getElem hj) hc⟩
      rw[hll];refine .ro (sz:=sz) val hI (fun e he=>?_) (by omega) h3 (fun h=>by rw[h4 (hf h),hll]) (fun i e j c he hc=>?_) (fun i e j c he hc=>?_) (fun i e j c he hc=>?_)
      ·obtain⟨i,hi⟩:=List.getElem?_of_mem he;have hi':i<es.length:=by rw[hll];exact(List.getElem?_eq_some_iff.1 hi).1
       rw[←(zlr (hlg i es[i] e (List.getElem?_eq_getElem hi') hi)).1];exact h1 _ (List.getElem_mem _)
      ·obtain⟨e0,c0,g1,g2,_⟩:=hg i e j c he hc;exact h5 i e0 j c0 g1 g2
      ·obtain⟨e0,c0,g1,g2,g3⟩:=hg i e j c he hc;exact ih g3 (h6 i e0 j c0 g1 g2)
      ·obtain⟨e0,c0,g1,g2,_⟩:=hg i e j c he hc;exact h7 i e0 j c0 g1 g2
  ·subst h;exact hv
theorem qmu {I:Nat→Prop}{w:World}{a b:D}{v:Value}(h:leD a b)(hv:RD I w a v):RD I w b v:=zxe 4 h hv
theorem zqd :∀{xs ys:List AV},leA.leL xs ys→xs.length=ys.length∧∀(i:Nat) x y,xs[i]? =some x→ys[i]? =some y→leA x y
 |[],[],_=>⟨rfl,fun i x y h=>by simp at h⟩
 |x::xs,y::ys,h=>by
  obtain⟨h1,h2⟩:=zqd h.2;refine⟨by simp[h1],fun i a b ha hb=>?_⟩;cases i with
  |zero=>simp at ha hb;rw[←ha,←hb];exact h.1
  |succ i=>exact h2 i a b (by simpa using ha) (by simpa using hb)
 |[],_::_,h=>h.elim
 |_::_,[],h=>h.elim
theorem zot {σ:Names}{I:Nat→Prop}{w:World}{a:AV}{v:Value}(hv:RV σ I w a v):∀{b:AV},leA a b→RV σ I w b v:=by
 induction hv with
 | @d x y hd=>
   intro b h;cases b with
   |d z=>exact .d (qmu h hd)
   |any=>exact .any _
   |ab=>
    obtain⟨t,rfl⟩:∃t,x=.v (.bool t):=by
     cases x with
     |v y=>cases y<;>simp[leA]at h⊢
     |_=>simp[leA]at h
    cases hd;exact .ab _
   |_=>simp[leA]at h
 | @agg cs xs hl hr ih=>
   intro b h;cases b with
   |agg ys=>
    obtain⟨h1,h2⟩:=zqd (by simpa[leA]using h);refine .agg (by rw[hl,h1]) (fun i c x hc hx=>?_);have hlt:i<cs.length:=by rw[h1];exact(List.getElem?_eq_some_iff.1 hc).1
    exact ih i cs[i] x (List.getElem?_eq_getElem hlt) hx (h2 i _ c (List.getElem?_eq_getElem hlt) hc)
   |any=>exact .any _
   |_=>simp[leA]at h
 | @tup cs xs hl hr ih=>
   intro b h;cases b with
   |tup ys=>
    obtain⟨h1,h2⟩:=zqd (by simpa[leA]using h);refine .tup (by rw[hl,h1]) (fun i c x hc hx=>?_);have hlt:i<cs.length:=by rw[h1];exact(List.getElem?_eq_some_iff.1 hc).1
    exact ih i cs[i] x (List.getElem?_eq_getElem hlt) hx (h2 i _ c (List.getElem?_eq_getElem hlt) hc)
   |any=>exact .any _
   |_=>simp[leA]at h
 |any y=>
  intro b h;cases b<;>first|exact .any _| (simp[leA]at h;done)
 |ab t=>
  intro b h;cases b<;>first|exact .any _|exact .ab _| (simp[leA]at h;done)
 |ptr h0=>
  intro b h;cases b<;>first|exact .any _| (simp[leA]at h;try obtain⟨rfl,rfl⟩:=h;exact .ptr h0)| (simp[leA]at h;done)
 |own h0 h1=>
  intro b h;cases b<;>first|exact .any _| (simp[leA]at h;subst h;exact .own h0 h1)| (simp[leA]at h;done)
 |prow h0=>
  intro b h;cases b<;>first|exact .any _| (simp[leA]at h;obtain⟨rfl,rfl,rfl,rfl⟩:=h;exact .prow h0)| (simp[leA]at h;done)
 |sl h0 hs=>
  intro b h;cases b<;>first|exact .any _| (simp[leA]at h;obtain⟨rfl,rfl,rfl,rfl⟩:=h;exact .sl h0 hs)| (simp[leA]at h;done)
 |fn hx hy h1 h2 i1 i2=>
  intro b h;cases b<;>first|exact .any _| (simp[leA]at h;obtain⟨rfl,rfl,rfl⟩:=h;exact .fn hx hy h1 h2)| (simp[leA]at h;done)
 |ifc h0 ih=>
  intro b h;cases b<;>first|exact .any _| (simp[leA]at h;obtain⟨rfl,rfl⟩:=h;exact .ifc h0)| (simp[leA]at h;done)
def zdn :AV→Option (FuncId×List AV×List AV)
 |.d (.v (.func (.func f) first captured))=>some (f,first.toList.map fun v=>.d (.v v),captured.toList.map fun v=>.d (.v v))
 |.fn (.func f) first captured=>some (f,first,captured)
 |.d (.fn (.func f) first captured)=>some (f,first.map .d,captured.map .d)
 |_=>none
theorem zya {σ:Names}{I:Nat→Prop}{w:World}{x:AV}{v:Value}{f:FuncId}{first captured:List AV}(h:zdn x=some (f,first,captured))(hv:RV σ I w x v):
  ∃xs ys:List Value,v=.func (.func f) xs.toArray ys.toArray∧xs.length=first.length∧ys.length=captured.length∧
   (∀(i:Nat) c y,first[i]? =some c→xs[i]? =some y→RV σ I w c y)∧∀(i:Nat) c y,captured[i]? =some c→ys[i]? =some y→RV σ I w c y:=by
 unfold zdn at h;split at h
 ·rename_i fst cap;cases h;refine⟨fst.toList,cap.toList,by rw[RV_v hv],by simp,by simp,fun i c y h1 h2=>?_,fun i c y h1 h2=>?_⟩<;>
  ·simp at h1 h2;obtain⟨z,hz,rfl⟩:=h1;rw[h2]at hz;cases hz;exact .d (.v _)
 ·cases h;cases hv with
  |fn hx hy h1 h2=>exact⟨_,_,rfl,hx,hy,h1,h2⟩
 ·cases h;cases hv with
  |d hv=>
   cases hv with
   |fn hx hy h1 h2=>
    refine⟨_,_,rfl,by simpa using hx,by simpa using hy,fun i c y k1 k2=>?_,fun i c y k1 k2=>?_⟩
    ·simp at k1;obtain⟨z,hz,rfl⟩:=k1;exact .d (h1 i z y hz k2)
    ·simp at k1;obtain⟨z,hz,rfl⟩:=k1;exact .d (h2 i z y hz k2)
 ·cases h
def zcz (P:Program)(f:FuncId):Prop:=∀(args:Array Value) (w:World),(callFunc f args).run P w=.ok (.enter f args) w
def renL (bn:List Nat)(nm:Nat)(b:Nat):Nat:=if b<64 then bn.getD b 0 else nm+(b-64)
def zdu (bn:List Nat)(nm:Nat)(mr m:List (Nat×Blk))(res:AV)(m':List (Nat×Blk)):Eff:=
 ⟨res.ren (renL bn nm),mr.map fun p=>renL bn nm p.1,
   (m.map fun p=>(renL bn nm p.1,(zac m' p.1).map (Blk.ren (renL bn nm))))++(m'.filter fun p=>decide (64≤p.1)).map fun p=>(renL bn nm p.1,some (p.2.ren (renL bn nm)))⟩
def nmOk (n:Nat)(b:Nat):Bool:=decide (b<n)|| (decide (64≤b)&&decide (b<128))
structure CallNames (bn:List Nat)(args:List AV)(mr m:List (Nat×Blk))(res:AV)(m':List (Nat×Blk)):Prop where
 len:bn.length≤64
 nodup:bn.Nodup
 args:inA.inL (fun b=>decide (b<bn.length)) args=true
 pre:∀p∈mr++m,p.1<bn.length∧inB (fun b=>decide (b<bn.length)) p.2=true
 keys:((mr++m).map (·.1)).Nodup
 res:inA (nmOk bn.length) res=true
 post:∀p∈mr++m',nmOk bn.length p.1=true∧inB (nmOk bn.length) p.2=true
 keys':((mr++m').map (·.1)).Nodup
theorem ze1 {l:List (Nat×Blk)}(hn:(l.map (·.1)).Nodup){b:Nat}{k:Blk}(h:(b,k)∈l):zac l b=some k:=by
 induction l with
 |nil=>cases h
 |cons p l ih=>
  obtain⟨c,q⟩:=p;simp only[List.map_cons,List.nodup_cons]at hn;rcases List.mem_cons.1 h with e|h
  ·cases e;simp[zac]
  ·have hne:c≠b:=fun e=>hn.1 (e▸List.mem_map.2 ⟨_,h,rfl⟩);simp only[zac,if_neg hne];exact ih hn.2 h
theorem qfd {l:List (Nat×Option Blk)}{b:Nat}{k:Option Blk}(h:zat l b=some k):(b,k)∈l:=by
 induction l with
 |nil=>cases h
 |cons p l ih=>
  obtain⟨c,q⟩:=p;simp only[zat]at h;split at h
  ·rename_i e;cases h;subst e;simp
  ·simp[ih h]
theorem qm9 {l:List Nat}(hn:l.Nodup){i j:Nat}(hi:i<l.length)(hj:j<l.length)(h:l.getD i 0=l.getD j 0):i=j:=by
 have h1:l.getD i 0=l[i]:=by simp[List.getD,hi]
 have h2:l.getD j 0=l[j]:=by simp[List.getD,hj]
 rw[h1,h2]at h;exact(List.getElem?_inj hi hn).1 (by rw[List.getElem?_eq_getElem hi,List.getElem?_eq_getElem hj,h])
section
variable {bn : List Nat} {nm : Nat} {args : List AV} {mr m m' : List (Nat × Blk)} {res : AV} {mem : Mem}
theorem qnz (hk:∀p∈mr++m,mem (renL bn nm p.1)=some (p.2.ren (renL bn nm))){b:Nat}{k:Blk}(h:zac (mr++m) b=some k):(zdu bn nm mr m res m').mr mem (renL bn nm b)=some (k.ren (renL bn nm)):=by
 have hmem:=zav h;refine Eff.mr_of (hk _ hmem) ?_;rcases List.mem_append.1 hmem with h|h
 ·exact .inl (List.mem_map.2 ⟨_,h,rfl⟩)
 ·refine .inr ((zgg _ _).2 ?_);simp only[zdu,List.map_append,List.map_map];exact List.mem_append.2 (.inl (List.mem_map.2 ⟨_,h,rfl⟩))
theorem qny (hn:CallNames bn args mr m res m')(hk:∀p∈mr++m,mem (renL bn nm p.1)=some (p.2.ren (renL bn nm))){c:Nat}{q:Blk}(h:(zdu bn nm mr m res m').mw mem c=some q):
  ∃b k,zac (mr++m') b=some k∧c=renL bn nm b∧q=k.ren (renL bn nm)∧((zac (mr++m) b).isSome∨(64≤b∧b<128)):=by
 simp only[Eff.mw]at h;split at h
 ·rename_i o ho;subst h;have hm:=qfd ho;simp only[zdu]at hm;rcases List.mem_append.1 hm with h|h
  ·obtain⟨p,hp,e⟩:=List.mem_map.1 h;simp only[Prod.mk.injEq]at e;obtain⟨rfl,e⟩:=e;obtain⟨k,hk',rfl⟩:=Option.map_eq_some_iff.1 e;refine⟨p.1,k,ze1 hn.keys' (List.mem_append.2 (.inr (zav hk'))),rfl,rfl,.inl ?_⟩;rw[ze1 hn.keys (List.mem_append.2 (.inr hp))];rfl
  ·obtain⟨p,hp,e⟩:=List.mem_map.1 h;simp only[Prod.mk.injEq,Option.some.injEq]at e;obtain⟨rfl,rfl⟩:=e;obtain⟨hp1,hp2⟩:=List.mem_filter.1 hp;simp only[decide_eq_true_eq]at hp2;have hlt:p.1<128:=by
    have:=(hn.post p (List.mem_append.2 (.inr hp1))).1;simp only[nmOk,Bool.or_eq_true,decide_eq_true_eq,Bool.and_eq_true]at this;have:=hn.len;omega
   exact⟨p.1,p.2,ze1 hn.keys' (List.mem_append.2 (.inr hp1)),rfl,rfl,.inr ⟨hp2,hlt⟩⟩
 ·split at h
  ·rename_i hc;simp only[zdu]at hc;obtain⟨p,hp,rfl⟩:=List.mem_map.1 hc;rw[hk p (List.mem_append.2 (.inl hp))]at h;cases h;refine⟨p.1,p.2,ze1 hn.keys' (List.mem_append.2 (.inl hp)),rfl,rfl,.inl ?_⟩;rw[ze1 hn.keys (List.mem_append.2 (.inl hp))];rfl
  ·cases h
theorem zm3 {P:Program}{o:Oper}{c:Call}{fo:Operand}{G:(Nat→Prop)→World→Prop}{fin:Value→Ending}(ho:o.op=.call c)(hc:c.callee=.value fo){tm:Nat→AV}{mem:Mem}{nm:Nat}{f:FuncId}{first captured:List AV}
  (hf:zdn (ev tm fo)=some (f,first,captured)) (hen:zcz P f) (hct:CtF G fin P f args mr m res m') (ha:leA.leL (first++c.args.toList.map (ev tm)++captured) (args.map (AV.ren (renL bn nm)))) (hn:CallNames bn args mr m res m')
  (hk:∀p∈mr++m,mem (renL bn nm p.1)=some (p.2.ren (renL bn nm))) {a:Act} {w:World} {σ:Names} {I:Nat→Prop} (hG:G I w) (h1:∀n,I n→n<w.heap.size)
  (h2:∀t,Operand.tmp t∈o.op.operands→RV σ I w (tm t) (a.tmps.getD t undef)) (h3:RM σ I w ((zdu bn nm mr m res m').mr mem)) (h4:∀b,fresh nm b→σ b=none):
  ∃vs:Array Value,(execOp a.eval o).run P w=.ok (.enter f vs) w∧Calls P f vs w fun e w'=>∃v σ' I',e=fin v∧Post σ I w ((zdu bn nm mr m res m').mr mem) nm σ' I' w' ((zdu bn nm mr m res m').mw mem)∧RV σ' I' w' (zdu bn nm mr m res m').res v:=by
 obtain⟨xs,ys,e1,lx,ly,rx,ry⟩:=zya hf (zaz (σ:=σ) (I:=I) (w:=w) (a:=a) (x:=fo) fun s e=>h2 s (by subst e;simp[ho,Op.operands,Call.operands,hc]));have harg:∀x∈c.args.toList,RV σ I w (ev tm x) (a.eval x):=fun x hx=>zaz fun s e=>h2 s (by subst e;simp[ho,Op.operands,Call.operands,hc];exact .inr (by simpa using hx))
 have hrun:(execOp a.eval o).run P w=.ok (.enter f (xs++c.args.toList.map a.eval++ys).toArray) w:=by
  have e3:(xs++c.args.toList.map a.eval++ys).toArray=xs.toArray++c.args.map a.eval++ys.toArray:=by
   apply Array.ext';simp
  have e4:=hen (xs.toArray++c.args.map a.eval++ys.toArray) w;rw[←e3]at e4;rw[←e4,e3];simp[execOp,ho,resolve,hc,e1,Deferred.ofValue,invoke]
 refine⟨_,hrun,?_⟩
 let σ0:Names:=fun b=>if b<bn.length then σ (renL bn nm b)else none
 have hg:∀b,b<bn.length→renL bn nm b=bn.getD b 0:=fun b hb=>by simp only[renL];rw[if_pos (by have:=hn.len;omega)]
 have hs0:∀b,decide (b<bn.length)=true→∀x,σ (renL bn nm b)=some x→σ0 b=some x:=fun b hb x hx=>by simp only[σ0];rw[if_pos (by simpa using hb)];exact hx
 obtain⟨hla,hle⟩:=zqd ha;have hlen0:(xs++c.args.toList.map a.eval++ys).length=args.length:=by
  have:(first++c.args.toList.map (ev tm)++captured).length=args.length:=by rw[hla];simp
  rw[←this];simp[lx,ly]
 have hargs:∀(i:Nat) q v,args[i]? =some q→(xs++c.args.toList.map a.eval++ys)[i]? =some v→RV σ0 I w q v:=by
  intro i q v hq hv;have hlt:i<(first++c.args.toList.map (ev tm)++captured).length:=by rw[hla];simpa using(List.getElem?_eq_some_iff.1 hq).1
  obtain⟨A,hA⟩:∃A,(first++c.args.toList.map (ev tm)++captured)[i]? =some A:=⟨_,List.getElem?_eq_getElem hlt⟩;have hav:RV σ I w A v:=by
   rw[List.append_assoc]at hA hv;by_cases hi:i<first.length
   ·rw[List.getElem?_append_left hi]at hA;rw[List.getElem?_append_left (by omega)]at hv;exact rx i A v hA hv
   ·rw[List.getElem?_append_right (by omega)]at hA;rw[List.getElem?_append_right (by omega),lx]at hv;by_cases hj:i-first.length<c.args.size
    ·rw[List.getElem?_append_left (by simpa using hj)]at hA;rw[List.getElem?_append_left (by simpa using hj)]at hv;simp only[List.getElem?_map]at hA hv;cases hx:c.args.toList[i-first.length]? with
     |none=>simp[hx]at hA
     |some x=>
      rw[hx]at hA hv;simp only[Option.map_some,Option.some.injEq]at hA hv;subst hA;subst hv;exact harg x (List.mem_of_getElem? hx)
    ·rw[List.getElem?_append_right (by simpa using hj)]at hA;rw[List.getElem?_append_right (by simpa using hj)]at hv;simp only[List.length_map]at hA hv;exact ry _ A v hA hv
  have h5:=zot hav (hle i A (q.ren (renL bn nm)) hA (by simp[hq]));exact zmf hs0 h5 rfl (zff hn.args i q hq)
 have hmr:∀b k,zac (mr++m) b=some k→(zdu bn nm mr m res m').mr mem (renL bn nm b)=some (k.ren (renL bn nm)):=fun b k h=>qnz hk h;have hpre:∀b k,zac (mr++m) b=some k→b<bn.length∧inB (fun b=>decide (b<bn.length)) k=true:=fun b k h=>hn.pre _ (zav h);have hinj:∀b b',b<bn.length→b'<bn.length→renL bn nm b=renL bn nm b'→b=b':=fun b b' h h' e=>qm9 hn.nodup h h' (by rw[←hg b h,←hg b' h',e])
 have hrm0:RM σ0 I w (zac (mr++m)):=by
  refine⟨fun b k hb=>?_,fun b b' k k' x x' n hb hb' hx hx' e e'=>?_⟩
  ·obtain⟨x,hx,hrb,hnn⟩:=h3.blk _ _ (hmr b k hb);obtain⟨p1,p2⟩:=hpre b k hb;exact⟨x,hs0 b (by simpa using p1) x hx,zjs hs0 hrb p2,hnn⟩
  ·obtain⟨p1,p2⟩:=hpre b k hb;obtain⟨p1',p2'⟩:=hpre b' k' hb';simp only[σ0,if_pos p1]at hx;simp only[σ0,if_pos p1']at hx';exact hinj b b' p1 p1' (h3.apart _ _ _ _ x x' n (hmr b k hb) (hmr b' k' hb') hx hx' e e')
 have hfree0:∀b,64≤b→σ0 b=none:=fun b hb=>by simp only[σ0];rw[if_neg (by have:=hn.len;omega)]
 have own0:∀n,Owns σ0 (zac (mr++m)) n→Owns σ ((zdu bn nm mr m res m').mr mem) n:=by
  rintro n ⟨b,k,x,hb,hx,e⟩;obtain⟨p1,p2⟩:=hpre b k hb;simp only[σ0,if_pos p1]at hx;exact⟨_,_,x,hmr b k hb,hx,e⟩
 refine(hct σ0 I w _ hG h1 hlen0 hargs hrm0 hfree0).mono (fun e w' he=>?_);obtain⟨v,σ1,I',rfl,hp,hrv⟩:=he
 let σ':Names:=fun b=>if nm≤b∧b<nm+64 then σ1 (64+(b-nm))else σ b
 have hnf:∀b x,σ b=some x→¬(nm≤b∧b<nm+64):=fun b x hx h=>by rw[h4 b h]at hx;cases hx
 have hs':∀b,nmOk bn.length b=true→∀x,σ1 b=some x→σ' (renL bn nm b)=some x:=by
  intro b hb x hx;simp only[nmOk,Bool.or_eq_true,decide_eq_true_eq,Bool.and_eq_true]at hb;rcases hb with hb|⟨hb1,hb2⟩
  ·cases h0:σ0 b with
   |none=>
    have:=hp.new b h0 (by rw[hx];simp);have:=this.1;have:=hn.len;omega
   |some y=>
    have h6:=hp.names b y h0;rw[hx]at h6;cases h6;simp only[σ0,if_pos hb]at h0;simp only[σ'];rw[if_neg (hnf _ _ h0)];exact h0
  ·have e1:renL bn nm b=nm+(b-64):=by simp only[renL];rw[if_neg (by omega)]
   simp only[σ',e1];rw[if_pos (by omega),show 64+(nm+(b-64)-nm)=b by omega];exact hx
 have hpost:∀b k,zac (mr++m') b=some k→nmOk bn.length b=true∧inB (nmOk bn.length) k=true:=fun b k h=>hn.post _ (zav h);have hmw:=fun{c q} (h:(zdu bn nm mr m res m').mw mem c=some q)=>qny (mem:=mem) hn hk h;refine⟨v,σ',I',rfl,?_,qcz hs' hrv hn.res⟩;refine⟨hp.os,hp.tape,hp.output,hp.size,fun b x hx=>?_,fun b hb1 hb2=>?_,hp.imono,hp.ib,fun n hn'=>?_,fun n hn1 hn2=>hp.frame n hn1 (fun ho=>hn2 (own0 n ho)),⟨fun c q hq=>?_,fun c c' q q' x x' n hq hq' hx hx' e e'=>?_⟩,fun c q hq=>?_,fun n ho=>?_⟩
 ·simp only[σ'];rw[if_neg (hnf _ _ hx)];exact hx
 ·simp only[σ']at hb2;split at hb2
  ·rename_i h;exact h
  ·exact absurd hb1 hb2
 ·rcases hp.inew n hn' with g|g|g
  ·exact .inl g
  ·exact .inr (.inl g)
  ·exact .inr (.inr (own0 n g))
 ·obtain⟨b,k,hb,rfl,rfl,_⟩:=hmw hq;obtain⟨x,hx,hrb,hnn⟩:=hp.mem.blk b k hb;obtain⟨p1,p2⟩:=hpost b k hb;exact⟨x,hs' b p1 x hx,qof hs' hrb p2,hnn⟩
 ·obtain⟨b,k,hb,rfl,rfl,_⟩:=hmw hq;obtain⟨b',k',hb',rfl,rfl,_⟩:=hmw hq';obtain⟨y,hy,_,_⟩:=hp.mem.blk b k hb;obtain⟨y',hy',_,_⟩:=hp.mem.blk b' k' hb';have:=hs' b (hpost b k hb).1 y hy;rw[hx]at this;cases this;have:=hs' b' (hpost b' k' hb').1 y' hy';rw[hx']at this;cases this;rw[hp.mem.apart b b' k k' _ _ n hb hb' hy hy' e e']
 ·obtain⟨b,k,hb,rfl,rfl,hor⟩:=hmw hq;rcases hor with h|⟨h,h'⟩
  ·obtain⟨k0,hk0⟩:=Option.isSome_iff_exists.1 h;exact .inl (by rw[hmr b k0 hk0];simp)
  ·have e1:renL bn nm b=nm+(b-64):=by simp only[renL];rw[if_neg (by omega)]
   exact .inr (by rw[e1];exact⟨by omega,by omega⟩)
 ·obtain⟨c,q,x,hq,hx,e⟩:=ho;obtain⟨b,k,hb,rfl,rfl,_⟩:=hmw hq;obtain⟨y,hy,_,_⟩:=hp.mem.blk b k hb;have:=hs' b (hpost b k hb).1 y hy;rw[hx]at this;cases this;rcases hp.mine n ⟨b,k,_,hb,hy,e⟩with g|g
  ·exact .inl (own0 n g)
  ·exact .inr g
theorem qbm {P:Program}{o:Oper}{c:Call}{fo:Operand}(ho:o.op=.call c)(hc:c.callee=.value fo)(tm:Nat→AV)(mem:Mem)(nm:Nat){f:FuncId}{first captured:List AV}
  (hf:zdn (ev tm fo)=some (f,first,captured)) (hen:zcz P f) (hct:Ct P f args mr m res m') (ha:leA.leL (first++c.args.toList.map (ev tm)++captured) (args.map (AV.ren (renL bn nm)))) (hn:CallNames bn args mr m res m')
  (hk:∀p∈mr++m,mem (renL bn nm p.1)=some (p.2.ren (renL bn nm))):
  OpOk P o tm ((zdu bn nm mr m res m').mr mem) nm (zdu bn nm mr m res m').res ((zdu bn nm mr m res m').mw mem):=by
 intro a w σ I h1 h2 h3 h4 next Q hnx;obtain⟨vs,hrun,hcall⟩:=zm3 ho hc hf hen hct.F ha hn hk trivial h1 h2 h3 h4;simp only[Oper.wp,hrun,Oper.upon];refine hcall.mono fun e w' ⟨v,σ',I',he,hp,hv⟩=>?_;subst he;exact hnx v σ' I' w' hp hv
end
def resA (P:Program)(x:X):List ResultVar→Option (List AV)
 |[]=>some []
 |.tmp t::r=>(resA P x r).map fun l=>zal x.tm t::l
 |.cell a T::r=>match tiOf P T with
  |some ti=>match zua ti.agg ti.sz (zap x.mm) (zal x.tm a),resA P x r with
   |some e,some l=>some (e.res::l)
   |_,_=>none
  |none=>none
def outA (P:Program)(fn:Func)(x:X):Option AV:=
 match resA P x fn.results.toList with
 |some [r]=>some r
 |some l=>some (.tup l)
 |none=>none
def zlv :Nat→List AV→List (Nat×AV)
 |_,[]=>[]
 |i,a::r=>(i,a)::zlv (i+1) r
theorem zhy :∀(l:List AV) (i t:Nat),zal (zlv i l) t=if i≤t then(l[t-i]?).getD .any else .any
 |[],i,t=>by simp[zlv,zal]
 |a::r,i,t=>by
  simp only[zlv,zal,zhy r (i+1) t];by_cases e:i=t
  ·subst e;simp
  ·by_cases h:i≤t
   ·have:t-i=(t-(i+1))+1:=by omega
    simp[e,h,show i+1≤t by omega,this]
   ·simp[e,h,show¬i+1≤t by omega]
theorem RM.sub {σ:Names}{I:Nat→Prop}{w:World}{m m':Mem}(hm:RM σ I w m)(h:∀b k,m' b=some k→m b=some k):RM σ I w m':=
 ⟨fun b k hb=>hm.blk b k (h b k hb),fun b b' k k' x x' n h1 h2 h3 h4 h5 h6=>hm.apart b b' k k' x x' n (h b k h1) (h b' k' h2) h3 h4 h5 h6⟩
theorem Eff.mr_sub {e:Eff}{m:Mem}:∀b k,e.mr m b=some k→m b=some k:=by
 intro b k hb;simp only[Eff.mr]at hb;split at hb
 ·exact hb
 ·cases hb
def znn (tmps:Array Value):ResultVar→Sem Value
 |.tmp t=>pure (tmps.getD t undef)
 |.cell a t=>do loadVar t (←asAddr (tmps.getD a undef))
theorem zom {E:Ctx}{x:X}{σ:Names}{I:Nat→Prop}{a:Act}{w:World}(hr:RelAt E x.den σ I a w):∀(rs:List ResultVar) (l:List AV),resA E.P x rs=some l→
  ∃vs:List Value,(rs.mapM (znn a.tmps)).run E.P w=.ok vs w∧vs.length=l.length∧∀(i:Nat) c v,l[i]? =some c→vs[i]? =some v→RV σ I w c v
 |[],l,h=>by cases h;exact⟨[],by rw[List.mapM_nil];rfl,rfl,fun i c v h=>by simp at h⟩
 |.tmp t::rs,l,h=>by
  simp only[resA]at h;cases hl:resA E.P x rs with
  |none=>simp[hl]at h
  |some l'=>
   simp[hl]at h;subst h;obtain⟨vs,h1,h2,h3⟩:=zom hr rs l' hl;refine⟨a.tmps.getD t undef::vs,?_,by simp[h2],fun i c v hc hv=>?_⟩
   ·rw[List.mapM_cons];simp only[znn,Sem.run_bind,Sem.run_pure,Result.andThen_ok,h1]
   ·cases i with
    |zero=>
     rw[List.getElem?_cons_zero]at hc hv;cases hc;cases hv;exact hr.tm t
    |succ i=>exact h3 i c v (by simpa using hc) (by simpa using hv)
 |.cell ad T::rs,l,h=>by
  simp only[resA]at h;split at h
  ·rename_i ti hT;split at h
   ·rename_i e l' he hl;cases h;obtain⟨vs,h1,h2,h3⟩:=zom hr rs l' hl;obtain⟨q,u,e1,e2,e3⟩:=zxd hT he (hr.tm ad) (hr.mm.sub Eff.mr_sub);refine⟨u::vs,?_,by simp[h2],fun i c v hc hv=>?_⟩
    ·rw[List.mapM_cons];simp only[znn,Sem.run_bind,e1,asAddr,Sem.run_pure,Result.andThen_ok,e2,h1]
    ·cases i with
     |zero=>
      rw[List.getElem?_cons_zero]at hc hv;cases hc;cases hv;exact e3
     |succ i=>exact h3 i c v (by simpa using hc) (by simpa using hv)
   ·cases h
  ·cases h
theorem zkd {P:Program}{fn:Func}{tmps:Array Value}{w:World}{vs:List Value}(h:(fn.results.toList.mapM (znn tmps)).run P w=.ok vs w):
  (results fn tmps).run P w=.ok (if h:vs.toArray.size=1 then vs.toArray[0]else .tuple vs.toArray) w:=by
 have e:results fn tmps=(do
   let us←fn.results.mapM (znn tmps)
   pure (if h:us.size=1 then us[0]else .tuple us)):=by
  unfold results;congr 1
 have e2:fn.results.mapM (znn tmps)=List.toArray<$>fn.results.toList.mapM (znn tmps):=by
  rw[←List.mapM_toArray]
 rw[e,e2,map_eq_pure_bind];simp only[Sem.run_bind,h,Result.andThen_ok,Sem.run_pure]
theorem qlm {E:Ctx}{x:X}{σ:Names}{I:Nat→Prop}{a:Act}{w:World}(hr:RelAt E x.den σ I a w){fn:Func}{r:AV}(h:outA E.P fn x=some r):
  ∃v,(results fn a.tmps).run E.P w=.ok v w∧RV σ I w r v:=by
 unfold outA at h;split at h
 ·rename_i r' hl;cases h;obtain⟨vs,h1,h2,h3⟩:=zom hr _ _ hl
  match vs,h2,h1,h3 with
  |[v],_,h1,h3=>exact⟨v,by rw[zkd h1];rfl,h3 0 r v rfl rfl⟩
 ·rename_i l hne hl;cases h;obtain⟨vs,h1,h2,h3⟩:=zom hr _ _ hl;refine⟨.tuple vs.toArray,?_,.tup h2 h3⟩;rw[zkd h1,dif_neg];intro h1';simp at h1';rw[h1']at h2
  match l,h2 with
  |[r'],_=>exact hne r' rfl
 ·cases h
def lookN :List (Nat×Nat)→Nat→Option Nat
 |[],_=>none
 | (a,c)::r,b=>if a=b then some c else lookN r b
def gf (g:List (Nat×Nat))(b:Nat):Nat:=if b<64 then b else(lookN g b).getD b
def nmF (m:List (Nat×Blk))(g:List (Nat×Nat))(b:Nat):Bool:=(decide (b<64)&&(zac m b).isSome)|| (decide (64≤b)&&(lookN g b).isSome)
structure FinOk (mm:Nat→Option Blk)(r:AV)(m:List (Nat×Blk))(res:AV)(m':List (Nat×Blk))(g:List (Nat×Nat)):Prop where
 fres:leA (prA (fun b=>(m'.map fun p=>gf g p.1).contains b) mm 8 r) (res.ren (gf g))
 post:∀p∈m',mm (gf g p.1)=some (p.2.ren (gf g))
 nd:(m'.map fun p=>gf g p.1).Nodup
 nd':(m'.map (·.1)).Nodup
 dom:∀p∈m',nmF m g p.1=true∧inB (nmF m g) p.2=true
 nres:inA (nmF m g) res=true
 g:∀q∈g,64≤q.1∧q.1<128
def RetC (mm:Nat→Option Blk)(m:List (Nat×Blk))(res:AV)(m':List (Nat×Blk)):Option AV→Prop
 |some r=>∃g,FinOk mm r m res m' g
 |none=>False
def retC (P:Program)(fn:Func)(m:List (Nat×Blk))(res:AV)(m':List (Nat×Blk)):Exit→X→Prop:=fun e x=>(e=.normal∨e=.ret)∧RetC (zap x.mm) m res m' (outA P fn x)
theorem zej (l:List (Nat×Blk)):zap (l.map fun p=>(p.1,some p.2))=zac l:=by
 funext b
 induction l with
 |nil=>rfl
 |cons p l ih=>obtain⟨c,k⟩:=p;simp only[List.map_cons,zap,zac,ih]
theorem zp9 {α β:Type}{f:α→β}:∀{l:List α},(l.map f).Nodup→∀{x y:α},x∈l→y∈l→f x=f y→x=y
 |[],_,_,_,h,_,_=>by cases h
 |a::l,hn,x,y,hx,hy,e=>by
  simp only[List.map_cons,List.nodup_cons]at hn;rcases List.mem_cons.1 hx with h1|h1<;>rcases List.mem_cons.1 hy with h2|h2
  ·rw[h1,h2]
  ·subst h1;exact absurd (List.mem_map.2 ⟨y,h2,e.symm⟩) hn.1
  ·subst h2;exact absurd (List.mem_map.2 ⟨x,h1,e⟩) hn.1
  ·exact zp9 hn.2 h1 h2 e
theorem qbb {E:Ctx}{σ:Names}{I:Nat→Prop}{w:World}{vs:List Value}{args:List AV}{m0:List (Nat×Blk)}(hw0:E.w0=w)(hbor:E.bor=Owns σ (zac m0))(hI0:E.I0=I)(hs0:E.s0=σ)(hn:args.length≤E.nt)
  (hib:∀n,I n→n<w.heap.size) (hl:vs.length=args.length) (hv:∀(i:Nat) c x,args[i]? =some c→vs[i]? =some x→RV σ I w c x) (hrm:RM σ I w (zac m0)) (hfree:∀b,64≤b→σ b=none):
  Rel E (X.den ⟨zlv 0 args,m0.map (fun p=>(p.1,some p.2)),64⟩) {tmps:=vs.toArray++Array.replicate (E.nt-vs.toArray.size) undef,defers:=[]} w:=by
 subst hw0 hI0 hs0;have hlk:zap (m0.map fun p=>(p.1,some p.2))=zac m0:=zej _;refine⟨E.s0,E.I0,?_,rfl,fun t=>?_,?_,fun b hb=>hfree b hb,hib,fun _ h=>h,fun n h=>.inl h,fun n h=>?_,rfl,rfl,⟨rfl,Nat.le_refl _⟩,Nat.le_refl _,fun _ _ _=>rfl,fun _ _ h=>h,hfree⟩
 ·simp;show _=E.nt;omega
 ·simp only[X.den,zhy,Nat.zero_le,if_true,Nat.sub_zero];cases ha:args[t]? with
  |none=>exact .any _
  |some c=>
   have hlt:t<vs.length:=by have:=(List.getElem?_eq_some_iff.1 ha).1;omega
   have e1:(vs.toArray++Array.replicate (E.nt-vs.toArray.size) undef).getD t undef=vs[t]:=by
    simp[Array.getElem?_append,hlt]
   rw[e1];exact hv t c _ ha (List.getElem?_eq_getElem hlt)
 ·show RM E.s0 E.I0 E.w0 (zap _);rw[hlk];exact hrm
 ·have h':Owns E.s0 (zap (m0.map fun p=>(p.1,some p.2))) n:=h;rw[hlk]at h';rw[hbor];exact .inl h'
theorem qbg {E:Ctx}{w w':World}{σ σf:Names}{I If:Nat→Prop}{a:Act}{x:X}{m0 m1:List (Nat×Blk)}{r res:AV}{v:Value}{g:List (Nat×Nat)}(hw0:E.w0=w)(hbor:E.bor=Owns σ (zac m0))(hI0:E.I0=I)(hs0:E.s0=σ)
  (hrm:RM σ I w (zac m0)) (hfree:∀b,64≤b→σ b=none) (hr:RelAt E x.den σf If a w') (hfin:FinOk (zap x.mm) r m0 res m1 g) (h2:RV σf If w' r v):
  ∃σ' I',Post σ I w (zac m0) 64 σ' I' w' (zac m1)∧RV σ' I' w' res v:=by
 subst hw0 hI0 hs0
 let kp:Nat→Bool:=fun b=>(m1.map fun p=>gf g p.1).contains b
 let I':=zii σf If (zap x.mm) kp
 let σ':Names:=fun b=>if b<64 then E.s0 b else match lookN g b with|some c=>σf c|none=>none
 have hmx:RM σf If w' (zap x.mm):=hr.mm;have hs:∀b,nmF m0 g b=true→∀y,σf (gf g b)=some y→σ' b=some y:=by
  intro b hb y hy;simp only[nmF,Bool.or_eq_true,Bool.and_eq_true,decide_eq_true_eq]at hb;rcases hb with⟨hb1,hb2⟩|⟨hb1,hb2⟩
  ·obtain⟨k,hk⟩:=Option.isSome_iff_exists.1 hb2;obtain⟨z,hz,_⟩:=hrm.blk b k hk;have:=hr.keep b z hz;simp only[gf,if_pos hb1]at hy;rw[hy]at this;cases this;simp only[σ',if_pos hb1];exact hz
  ·obtain⟨c,hc⟩:=Option.isSome_iff_exists.1 hb2;have hnl:¬b<64:=by omega
   simp only[gf,if_neg hnl,hc,Option.getD_some]at hy;simp only[σ',if_neg hnl,hc];exact hy
 have hs':∀b,nmF m0 g b=true→∀y,σ' b=some y→σf (gf g b)=some y:=by
  intro b hb y hy;simp only[nmF,Bool.or_eq_true,Bool.and_eq_true,decide_eq_true_eq]at hb;rcases hb with⟨hb1,hb2⟩|⟨hb1,hb2⟩
  ·simp only[σ',if_pos hb1]at hy;simp only[gf,if_pos hb1];exact hr.keep b y hy
  ·have hnl:¬b<64:=by omega
   obtain⟨c,hc⟩:=Option.isSome_iff_exists.1 hb2;simp only[σ',if_neg hnl,hc]at hy;simp only[gf,if_neg hnl,hc,Option.getD_some];exact hy
 have hrv:RV σ' I' w' res v:=zmf hs (zot (zla (kp:=kp) hmx 8 h2) hfin.fres) rfl hfin.nres;have hblk:∀b k,zac m1 b=some k→∃y,σ' b=some y∧σf (gf g b)=some y∧zap x.mm (gf g b)=some (k.ren (gf g))∧RB σ' I' w' k y∧∀n,AI.hb y=some n→n<w'.heap.size∧¬I' n:=by
  intro b k hb';have hmem:=zav hb';have hpo:=hfin.post _ hmem;obtain⟨d1,d2⟩:=hfin.dom _ hmem;obtain⟨y,hy,hrb,hnn⟩:=hmx.blk _ _ hpo;have hrb':RB σf I' w' (k.ren (gf g)) y:=hrb.mono (fun _ _=>rfl) (fun n h=>.inl h) (fun _ _ h=>h) (fun _ _=>rfl);refine⟨y,hs b d1 y hy,hy,hpo,zjs hs hrb' d2,fun n hn'=>⟨(hnn n hn').1,?_⟩⟩;rintro(h|⟨b0,hk0,c,q,z,e,q1,q2,q3⟩)
  ·exact(hnn n hn').2 h
  ·cases e;have:=hmx.apart _ _ _ _ _ _ n hpo q1 hy q2 hn' q3;subst this;have:kp (gf g b)=true:=by
    simp only[kp,List.contains_iff_mem];exact List.mem_map.2 ⟨_,hmem,rfl⟩
   rw[this]at hk0;cases hk0
 refine⟨σ',I',?_,hrv⟩;refine⟨hr.os,hr.tape,hr.output,hr.hs,fun b y hy=>?_,fun b hb1 hb2=>?_,fun n hn'=>.inl (hr.i0 n hn'),fun n hn'=>?_,fun n hn'=>?_,fun n hn1 hn2=>hr.frame n hn1 (by rw[hbor];exact hn2),⟨fun b k hb'=>?_,fun b b' k k' y y' n q1 q2 q3 q4 q5 q6=>?_⟩,fun b k hb'=>?_,fun n ho=>?_⟩
 ·have:b<64:=by
   rcases Nat.lt_or_ge b 64 with h|h
   ·exact h
   ·rw[hfree b h]at hy;cases hy
  simp only[σ',if_pos this];exact hy
 ·by_cases hlt:b<64
  ·simp only[σ',if_pos hlt]at hb2;exact absurd hb1 hb2
  ·simp only[σ',if_neg hlt]at hb2;cases hc:lookN g b with
   |none=>rw[hc]at hb2;exact absurd rfl hb2
   |some c=>
    have:∀{g:List (Nat×Nat)},lookN g b=some c→(b,c)∈g:=by
     intro g;induction g with
     |nil=>intro h;cases h
     |cons q g ih=>
      obtain⟨a1,a2⟩:=q;intro h;simp only[lookN]at h;split at h
      ·rename_i e;cases h;subst e;simp
      ·simp[ih h]
    exact hfin.g _ (this hc)
 ·rcases hn' with h|⟨b0,hk0,c,q,z,e,q1,q2,q3⟩
  ·exact hr.ib n h
  ·obtain⟨z',hz',_,hnn⟩:=hmx.blk _ _ q1;rw[q2]at hz';cases hz';exact(hnn n q3).1
 ·rcases hn' with h|⟨b0,hk0,c,q,z,e,q1,q2,q3⟩
  ·rcases hr.inew n h with g|g|g
   ·exact .inl g
   ·exact .inr (.inr (by rw[hbor]at g;exact g))
   ·exact .inr (.inl g)
  ·rcases hr.mine n ⟨c,q,z,q1,q2,q3⟩with g|g
   ·exact .inr (.inr (by rw[hbor]at g;exact g))
   ·exact .inr (.inl g)
 ·obtain⟨y,p1,p2,p3,p4,p5⟩:=hblk b k hb';exact⟨y,p1,p4,p5⟩
 ·obtain⟨u,p1,p2,p3,p4,p5⟩:=hblk b k q1;obtain⟨u',p1',p2',p3',p4',p5'⟩:=hblk b' k' q2;rw[q3]at p1;cases p1;rw[q4]at p1';cases p1';have:=hmx.apart _ _ _ _ _ _ n p3 p3' p2 p2' q5 q6;have:=zp9 hfin.nd (zav q1) (zav q2) this;exact congrArg Prod.fst this
 ·have hd:=(hfin.dom _ (zav hb')).1;simp only[nmF,Bool.or_eq_true,Bool.and_eq_true,decide_eq_true_eq]at hd;rcases hd with⟨_,hd⟩|⟨hd1,hd2⟩
  ·left;intro h;rw[h]at hd;cases hd
  ·right;obtain⟨c,hc⟩:=Option.isSome_iff_exists.1 hd2;have:∀{g:List (Nat×Nat)},lookN g b=some c→(b,c)∈g:=by
    intro g;induction g with
    |nil=>intro h;cases h
    |cons q g ih=>
     obtain⟨a1,a2⟩:=q;intro h;simp only[lookN]at h;split at h
     ·rename_i e;cases h;subst e;simp
     ·simp[ih h]
   exact hfin.g _ (this hc)
 ·obtain⟨b,k,y,q1,q2,q3⟩:=ho;obtain⟨u,p1,p2,p3,p4,p5⟩:=hblk b k q1;rw[q2]at p1;cases p1;have h9:=hr.mine n ⟨_,_,y,p3,p2,q3⟩;rw[hbor]at h9;exact h9
def qt7 (G:(Nat→Prop)→World→Prop):Prop:=∀(I I':Nat→Prop) (w w':World),G I w→(∀n,I n→w'.heap[n]? =w.heap[n]?)→(∀n,I n→I' n)→G I' w'
def CtJ (G:(Nat→Prop)→World→Prop)(P:Program)(f:FuncId)(args:List AV)(mr m:List (Nat×Blk))(res:AV)(m':List (Nat×Blk)):Prop:=
 CtF G .returned P f args mr m res m'
theorem Ct.toJ {G:(Nat→Prop)→World→Prop}{P:Program}{f:FuncId}{args:List AV}{mr m m':List (Nat×Blk)}{res:AV}(h:Ct P f args mr m res m'):CtJ G P f args mr m res m':=
 fun σ I w vs _ h1 h2 h3 h4 h5=>h σ I w vs h1 h2 h3 h4 h5
abbrev JG (G:(Nat→Prop)→World→Prop):Names→(Nat→Prop)→World→Prop:=fun _ I w=>G I w
theorem CtJ.of_body {G:(Nat→Prop)→World→Prop}(hGk:qt7 G){P:Program}{f:FuncId}{fn:Func}{c:Code}{args:List AV}{mr m:List (Nat×Blk)}{res:AV}{m':List (Nat×Blk)}(hf:P.funcs[f]? =some fn)(hb:fn.body=some c)(hm:P.follows .mixedOrders=true)(hn:args.length≤fn.ntmps)
  (h:CI none 0 (JG G) P fn.ntmps (retC P fn (mr++m) res (mr++m')) [.code c] ⟨zlv 0 args,(mr++m).map (fun p=>(p.1,some p.2)),64⟩):CtJ G P f args mr m res m':=by
 intro σ I w vs hG hib hl hv hrm hfree;refine(callsIn_wide (n:=0)).1 ?_;refine callsIn_of_wp (F:=FW none) hf hb trivial ?_ rfl
 let E:Ctx:={P:=P,w0:=w,bor:=Owns σ (zac (mr++m)),I0:=I,nt:=fn.ntmps,s0:=σ}
 have hJ:∀s σ' I' a w',RelAt E s σ' I' a w'→JG G σ' I' w':=by
  intro s σ' I' a w' hr;refine hGk I I' w w' hG (fun n hn=>hr.frame n (hib n hn) ?_) (fun n hn=>hr.i0 n hn);rintro⟨b,k,x,h1,h2,h3⟩;obtain⟨x',h4,_,h5⟩:=hrm.blk b k h1;rw[h2]at h4;cases h4;exact(h5 n h3).2 hn
 refine wpIn_mono ((zev hm h E rfl rfl hJ).1 rfl _ w (qbb (E:=E) rfl rfl rfl rfl hn hib hl hv hrm hfree)) (fun e a w' hq=>?_);obtain⟨x,⟨σf,If,hr⟩,he,hret⟩:zjx E (retC P fn (mr++m) res (mr++m')) e a w':=by
  cases e<;>simpa[aftI]using hq
 obtain⟨r,ho,g,hfin⟩:∃r,outA P fn x=some r∧∃g,FinOk (zap x.mm) r (mr++m) res (mr++m') g:=by
  cases ho:outA P fn x with
  |none=>rw[ho]at hret;exact hret.elim
  |some r=>rw[ho]at hret;exact⟨r,rfl,hret⟩
 obtain⟨v,h1,h2⟩:=qlm hr ho;obtain⟨σ',I',hp,hrv⟩:=qbg (E:=E) rfl rfl rfl rfl hrm hfree hr hfin h2;rcases he with rfl|rfl
 ·exact⟨hr.dfs,v,h1,v,σ',I',rfl,hp,hrv⟩
 ·exact⟨hr.dfs,v,h1,v,σ',I',rfl,hp,hrv⟩
abbrev J0 :Names→(Nat→Prop)→World→Prop:=fun _ _ _=>True
theorem Ct.of_body {P:Program}{f:FuncId}{fn:Func}{c:Code}{args:List AV}{mr m:List (Nat×Blk)}{res:AV}{m':List (Nat×Blk)}(hf:P.funcs[f]? =some fn)(hb:fn.body=some c)(hm:P.follows .mixedOrders=true)(hn:args.length≤fn.ntmps)
  (h:CI none 0 J0 P fn.ntmps (retC P fn (mr++m) res (mr++m')) [.code c] ⟨zlv 0 args,(mr++m).map (fun p=>(p.1,some p.2)),64⟩):Ct P f args mr m res m':=
 fun σ I w vs=>CtJ.of_body (G:=fun _ _=>True) (fun _ _ _ _ _ _ _=>trivial) hf hb hm hn h σ I w vs trivial
end Go.AI
