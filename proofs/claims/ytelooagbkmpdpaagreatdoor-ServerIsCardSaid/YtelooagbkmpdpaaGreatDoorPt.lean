/-
  What is reached, and sent, of whatever store, plainly
-/
import Derived.Test.YtelooagbkmpdpaaGreatDoorFd
import Derived.Test.YtelooagbkmpdpaaGreatDoorPs
set_option linter.unusedSimpArgs false
set_option linter.unusedVariables false
set_option maxRecDepth 100000
set_option maxHeartbeats 8000000
namespace Go.G
open Go.AI
noncomputable abbrev jT (l:List aC)(j:Nat):List Value:=gC ((l[j]?).getD kK).key
noncomputable abbrev lB (l:List aC)(j:Nat):List (List D):=(bJ ((l[j]?).getD kK)).map aK
def fF (l:List aC)(k:Key):List Key:=(l.filter λr=>decide (r.key=k)).flatMap bJ
theorem NT (l:List aC)(k:Key):∀n,n<=l.length->gN (jT l) (lB l) n (gC k)=(fF (l.take n) k).map aK
 |0,_=>by simp[gN,fF]
 |n+1,h=>by
  have hr:l[n]? =some l[n]:=bL (by omega);have e1:jT l n=gC l[n].key:=by unfold jT;rw[hr];rfl
  have e2:lB l n=(bJ l[n]).map aK:=by unfold lB;rw[hr];rfl
  have ht:fF (l.take (n+1)) k=fF (l.take n) k++fF [l[n]] k:=by
   unfold fF;rw[eW,hr,jM,List.flatMap_append];rfl
  rw[vI,NT l k n (by omega),ht,sM,e1,e2];congr 1
  by_cases e:l[n].key=k
  ·rw[bA (by rw[e])];simp[fF,e]
  ·rw[aR (λq=>e (AR q))];simp[fF,e]
theorem MX {α β:Type}{f:α->List β}{m:Nat}:∀(l:List α),(∀y∈l,(f y).length<=m)->(l.flatMap f).length<=l.length*m
 |[],_=>by simp
 |x::l,h=>by
  have h1:=h x (by simp);have h2:=MX l λy hy=>h y (by simp[hy]);simp only[List.flatMap_cons,oK,jL,fU];omega
theorem QF (l:List aC)(k:Key)(h33:∀r,(bJ r).length<=33):(fF l k).length<=l.length*33:=by
 have h1:=MX (f:=bJ) (m:=33) (l.filter λr=>decide (r.key=k)) λy _=>h33 y;have h2:(l.filter λr=>decide (r.key=k)).length<=l.length:=eE _ _;unfold fF;omega
theorem X0 {l:List aC}{k:Key}(h:k∈l.map aC.key):mapM' (jT l) (lB l) l.length [.int .i64 k.kind,.string k.name]=some [lD ((fF l k).map aK)]:=by
 have e:∃j,j<l.length/\jT l j=gC k:=by
  obtain⟨r,hr,rfl⟩:=dV.1 h;obtain⟨j,hj⟩:=sO hr;exact⟨j,(cJ.1 hj).1,by simp[jT,hj]⟩
 have c:=NT l k l.length (aY _);rw[bK]at c;show mapM' (jT l) (lB l) l.length (gC k)=_;unfold mapM';rw[bA e,c]
def dS (l:List aC):Nat->List Key->Key->List Key
 |0,out,_=>out
 |n+1,out,k=>if k∈l.map aC.key then if k∈out then out else(fF l k).foldl (dS l n) (out++[k])else out
theorem sT (l:List aC):∀(n:Nat) (out:List Key) (k x:Key),x∈out->x∈dS l n out k
 |0,_,_,_,h=>h
 |n+1,out,k,x,h=>by
  unfold dS;split
  ·split
   ·exact h
   ·exact oX (sT l n) _ _ _ (by simp[h])
  ·exact h
def oP (l:List aC):List Key:=(iJ l).foldl (dS l (l.length+1)) []
def jA (l:List aC):List aC:=l.filter λr=>decide (r.key∈oP l)
inductive kW (l:List aC):Key->Prop
 |root {r:aC} (h:r∈l) (h0:r.kind=0):kW l r.key
 |step {k q:Key} (h:kW l k) (hq:q∈fF l k) (hs:q∈l.map aC.key):kW l q
theorem GW (l:List aC):∀(n:Nat) (out:List Key) (k:Key),(∀x∈out,kW l x)->(k∈l.map aC.key->kW l k)->∀x∈dS l n out k,kW l x
 |0,out,k,h,_,x,hx=>h x hx
 |n+1,out,k,h,hk,x,hx=>by
  unfold dS at hx;split at hx
  ·rename_i hm;split at hx
   ·exact h x hx
   ·have key:∀(m o:List Key),(∀q∈m,q∈fF l k)->(∀x∈o,kW l x)->∀x∈m.foldl (dS l n) o,kW l x:=by
     intro m;induction m with
     |nil=>exact λo _ h x hx=>h x hx
     |cons q m ih=>
      intro o hm' ho x hx;rw[iG]at hx;exact ih _ (λp hp=>hm' p (by simp[hp])) (GW l n o q ho λhs=>.step (hk hm) (hm' q (by simp)) hs) x hx
    refine key _ _ (λ_ h=>h) (λx hx=>?_) x hx;rcases fZ.1 hx with g|g
    ·exact h x g
    ·simp only[uJ]at g;subst g;exact hk hm
  ·exact h x hx
theorem GX (l:List aC)(n:Nat)(out:List Key)(k:Key)(h:k∈l.map aC.key):k∈dS l (n+1) out k:=by
 unfold dS;rw[bA h];split
 ·assumption
 ·exact oX (sT l n) _ _ _ (by simp)
def sJ (l:List aC)(o:List Key)(k:Key):Prop:=∀q∈fF l k,q∈l.map aC.key->q∈o
theorem sJ.mono {l:List aC}{o o':List Key}{k:Key}(h:sJ l o k)(hs:∀x∈o,x∈o'):sJ l o' k:=λq h1 h2=>hs q (h q h1 h2)
theorem GY (l:List aC):∀(n:Nat) (out:List Key) (k:Key),jS l out<n->∀x∈dS l n out k,x∉out->sJ l (dS l n out k) x
 |0,_,_,h,_,_,_=>by omega
 |n+1,out,k,hlt,x,hx,ho=>by
  unfold dS at hx⊢;split at hx
  ·rename_i hm;split at hx
   ·exact absurd hx ho
   ·rename_i hko;rw[bA hm,aR hko];have hl2:=AJ hm hko;have key:∀(m:List Key) (o:List Key),jS l o<n->(∀q∈m,q∈l.map aC.key->q∈m.foldl (dS l n) o)/\∀x∈m.foldl (dS l n) o,x∉o->sJ l (m.foldl (dS l n) o) x:=by
     intro m;induction m with
     |nil=>exact λo _=>⟨λq h=>by simp at h,λx h1 h2=>absurd h1 h2⟩
     |cons q m ih=>
      intro o hlo;have hle:jS l (dS l n o q)<n:=by
       have:=wY (l:=l) (a:=o) (b:=dS l n o q) (λx hx=>sT l n o q x hx);omega
      obtain⟨i1,i2⟩:=ih (dS l n o q) hle;have hsub:∀x,x∈dS l n o q->x∈m.foldl (dS l n) (dS l n o q):=λx hx=>oX (sT l n) m _ x hx;rw[iG];refine⟨λp hp hs=>?_,λx hx hno=>?_⟩
      ·rcases iF.1 hp with e|e
       ·subst e;obtain⟨n',rfl⟩:∃n',n=n'+1:=⟨n-1,by omega⟩;exact hsub p (GX l n' o p hs)
       ·exact i1 p e hs
      ·by_cases hv:x∈dS l n o q
       ·exact(GY l n o q hlo x hv hno).mono hsub
       ·exact i2 x hx hv
    obtain⟨k1,k2⟩:=key (fF l k) (out++[k]) (by omega);by_cases hxk:x=k
    ·subst hxk;exact λq h1 h2=>k1 q h1 h2
    ·exact k2 x hx (by simp[ho,hxk])
  ·exact absurd hx ho
theorem T4 (l:List aC):∀x∈oP l,sJ l (oP l) x:=by
 have key:∀(m o:List Key),(∀x∈o,sJ l o x)->∀x∈m.foldl (dS l (l.length+1)) o,sJ l (m.foldl (dS l (l.length+1)) o) x:=by
  intro m;induction m with
  |nil=>exact λo h=>h
  |cons q m ih=>
   intro o ho;rw[iG];refine ih _ λx hx=>?_;by_cases h:x∈o
   ·exact(ho x h).mono λy hy=>sT l _ o q y hy
   ·exact GY l _ o q (by have:=AK l o;omega) x hx h
 exact key _ _ (by simp)
theorem T2 {l:List aC}{k:Key}(h:k∈iJ l):k∈oP l:=by
 have hk:k∈l.map aC.key:=by
  obtain⟨r,h1,h2⟩:=dV.1 h;exact dV.2 ⟨r,(jK.1 h1).1,h2⟩
 have key:∀(m o:List Key),k∈m->k∈m.foldl (dS l (l.length+1)) o:=by
  intro m;induction m with
  |nil=>intro o h;simp at h
  |cons q m ih=>
   intro o h;rw[iG];rcases iF.1 h with e|e
   ·subst e;exact oX (sT l _) _ _ _ (GX l _ o k hk)
   ·exact ih _ e
 exact key _ _ h
theorem IW {l:List aC}{k:Key}:k∈oP l↔kW l k:=by
 constructor
 ·have key:∀(m o:List Key),(∀q∈m,kW l q)->(∀x∈o,kW l x)->∀x∈m.foldl (dS l (l.length+1)) o,kW l x:=by
   intro m;induction m with
   |nil=>exact λo _ h=>h
   |cons q m ih=>
    intro o hm ho;rw[iG];exact ih _ (λp hp=>hm p (by simp[hp])) (GW l _ o q ho λ_=>hm q (by simp))
  refine key _ _ (λq hq=>?_) (by simp) k;obtain⟨r,h1,rfl⟩:=dV.1 hq;obtain⟨h2,h3⟩:=jK.1 h1;exact .root h2 (by simpa using h3)
 ·intro h;induction h with
  |root h h0=>exact T2 (dV.2 ⟨_,jK.2 ⟨h,by simpa using h0⟩,rfl⟩)
  |step _ hq hs ih=>exact T4 l _ ih _ hq hs
theorem KR {l:List aC}{k q:Key}:q∈fF l k↔∃r∈l,r.key=k/\q∈bJ r:=by
 unfold fF;simp only[List.mem_flatMap,jK,dO,and_assoc]
theorem IZ {l:List aC}:∀(n:Nat),∀x∈eF l n,kW l x
 |0,x,h=>by
  obtain⟨r,h1,rfl⟩:=dV.1 h;obtain⟨h2,h3⟩:=jK.1 h1;exact .root h2 (by simpa using h3)
 |n+1,x,h=>by
  have step:∀(m:List aC) (o:List Key),(∀r∈m,r∈l)->(∀x∈o,kW l x)->∀x∈m.foldl (gA l) o,kW l x:=by
   intro m;induction m with
   |nil=>exact λo _ h=>h
   |cons r m ihm=>
    intro o hm ho;rw[iG];refine ihm _ (λq hq=>hm q (by simp[hq])) ?_;unfold gA;split
    ·rename_i hk;have hkr:=ho _ hk;have inner:∀(s:List Key) (o:List Key),(∀q∈s,q∈bJ r)->(∀x∈o,kW l x)->∀x∈s.foldl (fV l) o,kW l x:=by
      intro s;induction s with
      |nil=>exact λo _ h=>h
      |cons q s ihs=>
       intro o hs ho;rw[iG];refine ihs _ (λp hp=>hs p (by simp[hp])) ?_;unfold fV;split
       ·rename_i hc;intro x hx;rcases fZ.1 hx with e|e
        ·exact ho x e
        ·simp at e;subst e;exact .step hkr (KR.2 ⟨r,hm r (by simp),rfl,hs _ (by simp)⟩) (mem_keys.2 hc.1)
       ·exact ho
     exact inner _ _ (λ_ h=>h) ho
    ·exact ho
  exact step l _ (λ_ h=>h) (IZ n) x h
theorem UF {l:List aC}{k:Key}(h:kW l k):0<=k.kind/\k.kind<=3/\k∈eF l k.kind.toNat:=by
 induction h with
 |root h h0=>
  rename_i r;have e:r.key.kind=0:=h0;rw[e];exact⟨by omega,by omega,dV.2 ⟨r,jK.2 ⟨h,by simpa using h0⟩,rfl⟩⟩
 |step h hq hs ih=>
  rename_i k q;obtain⟨i1,i2,i3⟩:=ih;obtain⟨r,hr,hk,hq⟩:=KR.1 hq;have rk:r.kind=k.kind:=cI Key.kind hk;have a:=IS hq;have b:=IP hq;refine⟨by omega,by omega,?_⟩;have e:q.kind.toNat=k.kind.toNat+1:=by omega
  rw[e];exact DI l hq (mem_keys.1 hs) l _ hr (by rw[hk];exact i3)
theorem T9 {l:List aC}{k:Key}:k∈eF l 4↔k∈oP l:=⟨λh=>IW.2 (IZ 4 k h),λh=>by
 obtain⟨h1,h2,h3⟩:=UF (IW.1 h);have:=DK _ (4-k.kind.toNat) h3
 rwa[show k.kind.toNat+(4-k.kind.toNat)=4 by omega]at this⟩
theorem IY (l:List aC):zH l=jA l:=List.filter_congr λr _=>CA.2 T9
theorem UB {l:List aC}(ha:cZ l):jA l=iK l:=(IY l).symm.trans (T7 ha)
def j3 (hv want:List aC)(held:List Key):bW:=⟨dR hv want,eQ hv want,(jA want).map aC.key,hv,held⟩
def lZ (hv want:List aC)(held:List Key):Option Step:=(j3 hv want held).steps.find? λs=>!s.none
theorem W9 {want:List aC}(ha:cZ want)(hv:List aC)(held:List Key):lZ hv want held=s7 hv want held:=by
 unfold lZ s7 j3 F3;rw[UB ha]
theorem Bs (hv want:List aC)(held:List Key)(n:Int):(j3 hv want held).early n=⟨n,fS (dR hv want) n ((jA want).map aC.key) false,[]⟩:=by
 simp only[bW.early,j3,k8,fS,List.filter_filter]
 grind
theorem YB (hv want:List aC)(held:List Key)(n:Int):(j3 hv want held).late n=⟨n,fS (dR hv want) n [] true,[]⟩:=by
 simp[bW.late,j3,k8,fS]
theorem Cb (hv want:List aC)(held:List Key):(j3 hv want held).doors 0=⟨0,fS (dR hv want) 0 [] true,kG hv (eQ hv want) 0 held⟩:=by
 simp[bW.doors,j3,k8,lN,fS,kG,nK]
theorem FC (hv want:List aC)(held:List Key){n:Int}(h:n≠0):(j3 hv want held).free n=⟨n,[],kG hv (eQ hv want) n held⟩:=by
 simp only[bW.free,j3,lN,List.filter_filter];congr 1
 refine List.filter_congr λk _=>?_;simp only[bW.rA,nK,decide_false,Bool.false_or,Bool.not_or]
 grind
theorem W8 (hv want:List aC)(held:List Key):lZ hv want held=
  mM ⟨3,fS (dR hv want) 3 ((jA want).map aC.key) false,[]⟩ (mM ⟨2,fS (dR hv want) 2 ((jA want).map aC.key) false,[]⟩ (mM ⟨1,fS (dR hv want) 1 ((jA want).map aC.key) false,[]⟩
  (mM ⟨0,fS (dR hv want) 0 [] true,kG hv (eQ hv want) 0 held⟩
  (mM ⟨3,fS (dR hv want) 3 [] true,[]⟩ (mM ⟨2,fS (dR hv want) 2 [] true,[]⟩ (mM ⟨1,fS (dR hv want) 1 [] true,[]⟩
  (mM ⟨1,[],kG hv (eQ hv want) 1 held⟩ (mM ⟨2,[],kG hv (eQ hv want) 2 held⟩ (mM ⟨3,[],kG hv (eQ hv want) 3 held⟩ none))))))))):=by
 have key:∀(s:Step) (l:List Step),(s::l).find? (λs=>!s.none)=mM s (l.find? λs=>!s.none):=λs l=>by
  unfold mM;rw[nP];by_cases h:s.aL.length+s.gone.length=0
  ·have e:(!s.none)=false:=by unfold Step.none;rw[uD h];rfl
   rw[bA h,e]
  ·have e:(!s.none)=true:=by unfold Step.none;rw[decide_eq_false h];rfl
   rw[aR h,e]
 unfold lZ bW.steps;simp only[key,Bs,YB,Cb,FC hv want held (n:=1) (by decide),FC hv want held (n:=2) (by decide),FC hv want held (n:=3) (by decide)];rfl
def dP (s:bM)(p:aZ):bM×List Frame×Int:=
 if idle s p=true then(s,[],0)else
 match lZ s.v.aI (bX p) s.v.held with
 |.none=>(s,[],0)
 |.some x=>kB s x
def nD (s:bM)(p:aZ):bM×List Frame×Int:=dP (cW s) p
theorem UN {p:aZ}(ha:cZ (bX p))(s:bM):nD s p=zI s p:=by
 unfold nD zI dP DO;rw[W9 ha];cases s7 (cW s).v.aI (bX p) (cW s).v.held<;>rfl
theorem W7 {hv want:List aC}{held:List Key}{x:Step}(h:lZ hv want held=.some x):(∀r∈x.aL,r∈want)/\x.aL.length<=want.length/\x.gone.length<=hv.length:=by
 have hm:=List.mem_of_find?_eq_some h;have hA:∀r n,r∈k8 (dR hv want) n->r∈want:=λr n hr=>(jK.1 (XS.1 hr).1).1;have lA:∀n,(k8 (dR hv want) n).length<=want.length:=λn=>cD (w9 _ _) (BH _ _);have lG:∀n,(lN (eQ hv want) n).length<=hv.length:=λn=>cD (AP _ _) (BG _ _);have early:∀n,x=(j3 hv want held).early n->(∀r∈x.aL,r∈want)/\x.aL.length<=want.length/\x.gone.length<=hv.length:=by
  rintro n rfl;exact⟨λr hr=>hA r n (jK.1 hr).1,cD (eE _ _) (lA n),jJ _⟩
 have late:∀n,x=(j3 hv want held).late n->(∀r∈x.aL,r∈want)/\x.aL.length<=want.length/\x.gone.length<=hv.length:=by
  rintro n rfl;exact⟨λr hr=>hA r n hr,lA n,jJ _⟩
 have free:∀n,x=(j3 hv want held).free n->(∀r∈x.aL,r∈want)/\x.aL.length<=want.length/\x.gone.length<=hv.length:=by
  rintro n rfl;exact⟨λr hr=>(by cases hr),jJ _,cD (eE _ _) (lG n)⟩
 simp only[bW.steps,iF,List.not_mem_nil,or_false]at hm;rcases hm with hm|hm|hm|hm|hm|hm|hm|hm|hm|hm
 ·exact early 3 hm
 ·exact early 2 hm
 ·exact early 1 hm
 ·subst hm;exact⟨λr hr=>hA r 0 hr,lA 0,lG 0⟩
 ·exact late 3 hm
 ·exact late 2 hm
 ·exact late 1 hm
 ·exact free 1 hm
 ·exact free 2 hm
 ·exact free 3 hm
structure O6 (r:bM×List Frame×Int):Prop where
 sess:gO r.1
 marks:r.1.v.push.aI.length<=80
 len:r.2.1.length<=1
 all:∀f∈r.2.1,eD f/\f.aI.length<=80
theorem C7 {s:bM}(h:s.v.push.aI.length<=80):(cW s).v.push.aI.length<=80:=by
 unfold cW;split
 ·exact h
 ·exact jJ _
theorem UM {s:bM}{p:aZ}(hs:gO s)(hw:gG (bX p))(hm:s.v.push.aI.length<=80):O6 (nD s p):=by
 have hq:=sW hs;have hn:=C7 hm;unfold nD;generalize cW s=q at hq hn⊢;have z:O6 (q,[],0):=⟨hq,hn,jJ _,λf hf=>(by cases hf)⟩;unfold dP;split
 ·exact z
 split
 ·exact z
 ·rename_i x hx;obtain⟨x1,x2,x3⟩:=W7 hx;have F:∀n,eD (gJ q x n):=λn=>⟨⟨cD x2 hw.len,λr hr=>hw.all r (x1 r hr)⟩,cD x3 hq.v.aI.len,by simp[gJ],by simp[gJ]⟩;unfold kB;split
  ·exact⟨⟨⟨hq.v.aI,hq.v.held,F _⟩⟩,jJ _,aY _,λf hf=>by rw[uJ.1 hf];exact⟨F _,jJ _⟩⟩
  ·exact⟨hq,hn,jJ _,λf hf=>(by cases hf)⟩
theorem En {p:aZ}(hp:iS p)(v:Int):gG ((j4 p v).getD []):=by
 have z:gG []:=⟨by simp,by simp⟩;unfold j4;split
 ·unfold cO;split
  ·unfold dU;cases e:([[]]:List (List aC))[v.toNat]? with
   |none=>exact z
   |some l=>
    have:=gI e;rw[uJ.1 this];exact z
  ·cases e:p.aU[v.toNat]? with
   |none=>exact z
   |some l=>exact hp.all l (gI e)
 ·exact z
theorem WS {p:aZ}(hp:iS p){m:Mark}(hm:eA m.k=true):qB (ofM p m):=by
 have hb:qB (mU m):=by
  have h:nB m.k.name:=by
   simp only[eA,bN]at hm;have:=zY hm.2;unfold nB;omega
  exact⟨h,by simp[mU],by simp[mU],by simp[mU],by simp[mU]⟩
 unfold ofM kT;cases e:aQ ((j4 p m.bZ).getD []) m.k with
 |none=>exact hb
 |some r=>
  simp only;split
  ·exact(En hp m.bZ).all r (tK e)
  ·exact hb
theorem KU :∀(L:List aC) (l:List aC) {r:aC},r∈L.foldl hC l->r∈L\/r∈l
 |[],l,r,h=>.inr h
 |x::L,l,r,h=>by
  rcases KU L _ h with g|g
  ·exact .inl (List.mem_cons_of_mem _ g)
  ·rcases KQ g with g|g
   ·exact .inl (g▸List.mem_cons_self)
   ·exact .inr g
theorem ZP {s:bM}{p:aZ}(f:Frame)(hs:cF s=true)(ho:gO s)(hp:iS p):gO (handle s p f).1:=by
 have S:=pK.1 (ZN p f hs);refine⟨⟨⟨by have:=S.hl;omega,?_⟩,by have:=S.dl;omega,by rcases MA p f hs with h|h<;>rw[h]<;>first|exact ho.v.push|exact GK⟩⟩;unfold handle;rw[wH hs];unfold eK;split
 ·exact ho.v.aI.all
 rename_i he;have F:=n4.1 (Decidable.not_not.1 he);split
 ·exact ho.v.aI.all
 split
 ·unfold kS;split
  ·exact ho.v.aI.all
  ·intro r hr;rcases KU _ _ hr with g|g
   ·obtain⟨m,hm,rfl⟩:=dV.1 g;refine WS hp ?_;have:=F.named;simp only[fD,bN,cS]at this;exact this.2 m hm
   ·cases g
 split
 ·exact ho.v.aI.all
 split
 ·unfold fT
  repeat' split
  all_goals first
   |exact ho.v.aI.all
   | (intro r hr
      rcases ON hr with g|g
      ·exact ho.v.aI.all r g
      ·exact ho.v.push.aL.all r g.2)
 ·intro r hr;refine ho.v.aI.all r ?_;simp only[pZ,gT]at hr;split at hr<;>exact hr
theorem ZM (s:bM)(p:aZ)(f:Frame):handle s p f=handle (cW s) p f:=by
 unfold handle;rw[wH (sV s)]
theorem ZR {s:bM}{p:aZ}(f:Frame)(ho:gO s)(hp:iS p)(hm:s.v.push.aI.length<=80):gO (handle s p f).1/\(handle s p f).1.v.push.aI.length<=80:=by
 rw[ZM];refine⟨ZP f (sV s) (sW ho) hp,?_⟩;rcases MA p f (sV s)with h|h<;>rw[h]
 ·exact C7 hm
 ·exact jJ _
theorem TO {s:bM}(ho:gO s)(hm:s.v.push.aI.length<=80):(kZ s).length<=1/\∀f∈kZ s,eD f/\f.aI.length<=80:=by
 unfold kZ;split
 ·exact⟨aY _,λf hf=>by rw[uJ.1 hf];exact⟨(sW ho).v.push,C7 hm⟩⟩
 ·exact⟨jJ _,λf hf=>(by cases hf)⟩
theorem WV {p:aZ}(h:∀l∈p.aU,l.length<=80):(bX p).length<=80:=by
 unfold bX cM cO;split
 ·simp[dU]
 ·rw[yH];cases e:p.aU.getLast? with
  |none=>exact jJ _
  |some l=>exact h l (List.mem_of_getLast? e)
end Go.G
