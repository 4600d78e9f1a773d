/- LAYERS 5, 6, 9, walked -/
import Derived.Test.YtobcmagefgdgdaaGreatDoorWc
set_option linter.unusedSimpArgs false
set_option linter.unusedVariables false
set_option maxRecDepth 100000
set_option maxHeartbeats 8000000
namespace Go.Proofs.YtobcmagefgdgdaaGreatDoor
open Go.AI Go.G Tryz
attribute [simp] ntmps298 results298 ntmps297 results297 ntmps505 results505 ntmps506 results506 ntmps299 results299 ntmps146 results146 ntmps296 results296 ntmps216 results216 ntmps147 results147 ntmps412 results412
theorem Uo (a b:Weight):(!decide (a.fT=b.fT)|| !decide (a.w=b.w))= !decide (a=b):=by
 obtain⟨p,q⟩:=a;obtain⟨u,v⟩:=b;rw[tQ];simp[Weight.mk.injEq]
theorem zfH (a b:G.Mark):(!decide (a.k.kind=b.k.kind)|| (!decide (a.k.name=b.k.name)|| !decide (a.bR=b.bR)))= !decide (a=b):=by
 rw[<-Me];simp[JW,Bool.or_assoc]
theorem eq_int (a b:List Int)(hl:a.length<=9223372036854775807):C0 298 [aB (a.map kP),aB (b.map kP)] (bool (decide (a=b))):=by
 refine Ct.B func298 ?_;simp;refine aX (λh1 zz=>?_) (λh1 zz=>?_)<;>simp only[zz]<;>simp
 ·have e:¬a=b:=λe=>h1 (by rw[e]);exact aA (by simp[e])
 have hab:a.length=b.length:=by omega
 refine aH.inv mixed rfl (ι:={k:Nat//k<=(a).length/\a.take k=b.take k}) (λk=>[(0,aB (a.map kP)),(1,aB (b.map kP)),(11,aB (a.map kP)),(12,int a.length),(13,int k.1)]) (λk=>[]) 64 (λk=>(a).length-k.1) ⟨0,by omega,by simp⟩ [] (by constructor<;>simp) ?_;rintro⟨k,hk1,hi⟩ B hB;refine CI.n ?_;simp;rcases bC hk1 with⟨x,hk,hx,hr,hm,ht,hd,hw,h⟩|rfl
 ·simp[h,hr,hw];have hrb:b[k]? =some b[k]:=bO (by omega);have htb:b.take (k+1)=b.take k++[b[k]]:=by rw[jH,hrb];rfl
  have hne:¬x=b[k]->¬a=b:=by
   intro h2 e;subst e;rw[hr]at hrb;exact h2 (mW hrb)
  generalize b[k]=y at hrb htb hne;simp[hrb];refine dr ?_;refine aX (λh2 zz=>?_) (λh2 zz=>?_)<;>simp only[zz]<;>simp[hr,hrb]
  ·have e:=hne h2;exact aA (by simp[e])
  ·refine hB _ ⟨k+1,by omega,by rw[ht,htb,hi,h2]⟩ [] ?_ (by simp;omega);constructor<;>simp[hw]
 ·simp;have e:a=b:=by
   rw[bX,hab,bX]at hi;exact hi
  exact aA (by simp[e])
theorem zh8 (a b:List Weight)(hl:a.length<=9223372036854775807):C0 297 [aB (a.map wC),aB (b.map wC)] (bool (decide (a=b))):=by
 refine Ct.B func297 ?_;simp;refine aX (λh1 zz=>?_) (λh1 zz=>?_)<;>simp only[zz]<;>simp
 ·have e:¬a=b:=λe=>h1 (by rw[e]);exact aA (by simp[e])
 have hab:a.length=b.length:=by omega
 refine aH.inv mixed rfl (ι:={k:Nat//k<=(a).length/\a.take k=b.take k}) (λk=>[(0,aB (a.map wC)),(1,aB (b.map wC)),(11,aB (a.map wC)),(12,int a.length),(13,int k.1)]) (λk=>[]) 64 (λk=>(a).length-k.1) ⟨0,by omega,by simp⟩ [] (by constructor<;>simp) ?_;rintro⟨k,hk1,hi⟩ B hB;refine CI.n ?_;simp;rcases bC hk1 with⟨x,hk,hx,hr,hm,ht,hd,hw,h⟩|rfl
 ·simp[h,hr,hw];have hrb:b[k]? =some b[k]:=bO (by omega);have htb:b.take (k+1)=b.take k++[b[k]]:=by rw[jH,hrb];rfl
  have hne:¬x=b[k]->¬a=b:=by
   intro h2 e;subst e;rw[hr]at hrb;exact h2 (mW hrb)
  generalize b[k]=y at hrb htb hne;simp[hrb];rw[Uo];refine dr ?_;refine aX (λh2 zz=>?_) (λh2 zz=>?_)<;>simp only[zz]<;>simp[hr,hrb]
  ·have e:=hne h2;exact aA (by simp[e])
  ·refine hB _ ⟨k+1,by omega,by rw[ht,htb,hi,h2]⟩ [] ?_ (by simp;omega);constructor<;>simp[hw]
 ·simp;have e:a=b:=by
   rw[bX,hab,bX]at hi;exact hi
  exact aA (by simp[e])
theorem Y7 (a b:List Key)(hl:a.length<=9223372036854775807):C0 505 [aB (a.map aQ),aB (b.map aQ)] (bool (decide (a=b))):=by
 refine Ct.B func505 ?_;simp;refine aX (λh1 zz=>?_) (λh1 zz=>?_)<;>simp only[zz]<;>simp
 ·have e:¬a=b:=λe=>h1 (by rw[e]);exact aA (by simp[e])
 have hab:a.length=b.length:=by omega
 refine aH.inv mixed rfl (ι:={k:Nat//k<=(a).length/\a.take k=b.take k}) (λk=>[(0,aB (a.map aQ)),(1,aB (b.map aQ)),(11,aB (a.map aQ)),(12,int a.length),(13,int k.1)]) (λk=>[]) 64 (λk=>(a).length-k.1) ⟨0,by omega,by simp⟩ [] (by constructor<;>simp) ?_;rintro⟨k,hk1,hi⟩ B hB;refine CI.n ?_;simp;rcases bC hk1 with⟨x,hk,hx,hr,hm,ht,hd,hw,h⟩|rfl
 ·simp[h,hr,hw];have hrb:b[k]? =some b[k]:=bO (by omega);have htb:b.take (k+1)=b.take k++[b[k]]:=by rw[jH,hrb];rfl
  have hne:¬x=b[k]->¬a=b:=by
   intro h2 e;subst e;rw[hr]at hrb;exact h2 (mW hrb)
  generalize b[k]=y at hrb htb hne;simp[hrb];rw[X9];refine dr ?_;refine aX (λh2 zz=>?_) (λh2 zz=>?_)<;>simp only[zz]<;>simp[hr,hrb]
  ·have e:=hne h2;exact aA (by simp[e])
  ·refine hB _ ⟨k+1,by omega,by rw[ht,htb,hi,h2]⟩ [] ?_ (by simp;omega);constructor<;>simp[hw]
 ·simp;have e:a=b:=by
   rw[bX,hab,bX]at hi;exact hi
  exact aA (by simp[e])
theorem zib (a b:List G.Mark)(hl:a.length<=9223372036854775807):C0 506 [aB (a.map jD),aB (b.map jD)] (bool (decide (a=b))):=by
 refine Ct.B func506 ?_;simp;refine aX (λh1 zz=>?_) (λh1 zz=>?_)<;>simp only[zz]<;>simp
 ·have e:¬a=b:=λe=>h1 (by rw[e]);exact aA (by simp[e])
 have hab:a.length=b.length:=by omega
 refine aH.inv mixed rfl (ι:={k:Nat//k<=(a).length/\a.take k=b.take k}) (λk=>[(0,aB (a.map jD)),(1,aB (b.map jD)),(11,aB (a.map jD)),(12,int a.length),(13,int k.1)]) (λk=>[]) 64 (λk=>(a).length-k.1) ⟨0,by omega,by simp⟩ [] (by constructor<;>simp) ?_;rintro⟨k,hk1,hi⟩ B hB;refine CI.n ?_;simp;rcases bC hk1 with⟨x,hk,hx,hr,hm,ht,hd,hw,h⟩|rfl
 ·simp[h,hr,hw];have hrb:b[k]? =some b[k]:=bO (by omega);have htb:b.take (k+1)=b.take k++[b[k]]:=by rw[jH,hrb];rfl
  have hne:¬x=b[k]->¬a=b:=by
   intro h2 e;subst e;rw[hr]at hrb;exact h2 (mW hrb)
  generalize b[k]=y at hrb htb hne;simp[hrb];rw[zfH];refine dr ?_;refine aX (λh2 zz=>?_) (λh2 zz=>?_)<;>simp only[zz]<;>simp[hr,hrb]
  ·have e:=hne h2;exact aA (by simp[e])
  ·refine hB _ ⟨k+1,by omega,by rw[ht,htb,hi,h2]⟩ [] ?_ (by simp;omega);constructor<;>simp[hw]
 ·simp;have e:a=b:=by
   rw[bX,hab,bX]at hi;exact hi
  exact aA (by simp[e])
theorem zh7 (a b:List cH)(kf:D)(hf:∀x∈a,∀y,bN prog (.d kf) [st (dJ x),st (dJ y)] (bool (decide (x=y))))(hl:a.length<=9223372036854775807):C0 299 [aB (a.map dJ),aB (b.map dJ),.d kf] (bool (decide (a=b))):=by
 refine Ct.B func299 ?_;simp;refine aX (λh1 zz=>?_) (λh1 zz=>?_)<;>simp only[zz]<;>simp
 ·have e:¬a=b:=λe=>h1 (by rw[e]);exact aA (by simp[e])
 have hab:a.length=b.length:=by omega
 refine aH.inv mixed rfl (ι:={k:Nat//k<=(a).length/\a.take k=b.take k}) (λk=>[(0,aB (a.map dJ)),(1,aB (b.map dJ)),(2,.d kf),(15,aB (a.map dJ)),(16,int a.length),(17,int k.1)]) (λk=>[]) 64 (λk=>(a).length-k.1) ⟨0,by omega,by simp⟩ [] (by constructor<;>simp) ?_;rintro⟨k,hk1,hi⟩ B hB;refine CI.n ?_;simp;rcases bC hk1 with⟨x,hk,hx,hr,hm,ht,hd,hw,h⟩|rfl
 ·simp[h,hr,hw];have hrb:b[k]? =some b[k]:=bO (by omega);have htb:b.take (k+1)=b.take k++[b[k]]:=by rw[jH,hrb];rfl
  have hne:¬x=b[k]->¬a=b:=by
   intro h2 e;subst e;rw[hr]at hrb;exact h2 (mW hrb)
  generalize b[k]=y at hrb htb hne;simp[hrb];refine CI.ff (hf x hm y) rfl rfl rfl ?_;simp;refine aX (λh2 zz=>?_) (λh2 zz=>?_)<;>simp only[zz]<;>simp[hr,hrb]
  ·have e:=hne h2;exact aA (by simp[e])
  ·refine hB _ ⟨k+1,by omega,by rw[ht,htb,hi,h2]⟩ [] ?_ (by simp;omega);constructor<;>simp[hw]
 ·simp;have e:a=b:=by
   rw[bX,hab,bX]at hi;exact hi
  exact aA (by simp[e])
theorem Ps (a b:List aC)(kf:D)(hf:∀x∈a,∀y,bN prog (.d kf) [st (aF x),st (aF y)] (bool (decide (x=y))))(hl:a.length<=9223372036854775807):C0 146 [aB (a.map aF),aB (b.map aF),.d kf] (bool (decide (a=b))):=by
 refine Ct.B func146 ?_;simp;refine aX (λh1 zz=>?_) (λh1 zz=>?_)<;>simp only[zz]<;>simp
 ·have e:¬a=b:=λe=>h1 (by rw[e]);exact aA (by simp[e])
 have hab:a.length=b.length:=by omega
 refine aH.inv mixed rfl (ι:={k:Nat//k<=(a).length/\a.take k=b.take k}) (λk=>[(0,aB (a.map aF)),(1,aB (b.map aF)),(2,.d kf),(15,aB (a.map aF)),(16,int a.length),(17,int k.1)]) (λk=>[]) 64 (λk=>(a).length-k.1) ⟨0,by omega,by simp⟩ [] (by constructor<;>simp) ?_;rintro⟨k,hk1,hi⟩ B hB;refine CI.n ?_;simp;rcases bC hk1 with⟨x,hk,hx,hr,hm,ht,hd,hw,h⟩|rfl
 ·simp[h,hr,hw];have hrb:b[k]? =some b[k]:=bO (by omega);have htb:b.take (k+1)=b.take k++[b[k]]:=by rw[jH,hrb];rfl
  have hne:¬x=b[k]->¬a=b:=by
   intro h2 e;subst e;rw[hr]at hrb;exact h2 (mW hrb)
  generalize b[k]=y at hrb htb hne;simp[hrb];refine CI.ff (hf x hm y) rfl rfl rfl ?_;simp;refine aX (λh2 zz=>?_) (λh2 zz=>?_)<;>simp only[zz]<;>simp[hr,hrb]
  ·have e:=hne h2;exact aA (by simp[e])
  ·refine hB _ ⟨k+1,by omega,by rw[ht,htb,hi,h2]⟩ [] ?_ (by simp;omega);constructor<;>simp[hw]
 ·simp;have e:a=b:=by
   rw[bX,hab,bX]at hi;exact hi
  exact aA (by simp[e])
theorem zbW {a b:cH}(h1:a.host=b.host)(h2:a.pre=b.pre):decide (a=b)=decide (a.split=b.split):=by
 obtain⟨a1,a2,a3⟩:=a;obtain⟨b1,b2,b3⟩:=b;simp only at h1 h2;subst h1 h2;rw[tQ];simp
theorem zk2 (x y:cH)(hl:x.split.length<=9223372036854775807):C0 296 [st (dJ x),st (dJ y)] (bool (decide (x=y))):=by
 refine Ct.B func296 ?_;simp;refine cV (λh1 zz=>?_) (λh1 zz=>?_)<;>simp only[zz]<;>simp
 ·refine cV (λh2 zz=>?_) (λh2 zz=>?_)<;>simp only[zz]<;>simp
  ·refine CI.p (zh8 x.split y.split hl) ?_;simp;rw[zbW h1 h2];exact aA
  ·have e:¬x=y:=λe=>h2 (by rw[e]);exact aA (by simp[e])
 ·have e:¬x=y:=λe=>h1 (by rw[e]);exact aA (by simp[e])
theorem Sq (a b:aC)(hl:y2 a):C0 216 [st (aF a),st (aF b)] (bool (jF a b)):=by
 refine Ct.B func216 ?_;simp;refine CI.p (oK a) ?_;simp;refine CI.p (oK b) ?_;simp;rw[BQ];refine cV (λh1 zz=>?_) (λh1 zz=>?_)<;>simp only[zz]<;>simp
 ·have k1:a.kind=b.kind:=jW Key.kind h1;have k2:a.name=b.name:=jW Key.name h1;refine cV (λh2 zz=>?_) (λh2 zz=>?_)<;>simp only[zz]<;>simp
  ·refine cV (λh3 zz=>?_) (λh3 zz=>?_)<;>simp only[zz]<;>simp
   ·refine CI.p (eq_int a.bH b.bH hl.bH) ?_;simp;refine cV (λh4 zz=>?_) (λh4 zz=>?_)<;>simp only[zz]<;>simp
    ·refine CI.p (zh7 a.rules b.rules (dE 296) (λx hx y=>bN.of (zk2 x y (hl.split x hx)) call296 rfl rfl) hl.rules) ?_;simp;refine dr ?_;exact aA (by simp[jF,k1,k2,h2,h3,h4])
    ·refine dr ?_;exact aA (by simp[jF,h4])
   ·refine dr ?_;exact aA (by simp[jF,h3])
  ·refine dr ?_;exact aA (by simp[jF,h2])
 ·have e:jF a b=false:=by
   simp only[jF];have:(decide (a.kind=b.kind)&&decide (a.name=b.name))=false:=by rw[show(decide (a.kind=b.kind)&&decide (a.name=b.name))=decide (a.key=b.key)from BQ a.key b.key];simpa using h1
   rw[this];simp
  refine dr ?_;exact aA (by simp[e])
theorem VO (a b:aC)(hl:y2 a):C0 147 [st (aF a),st (aF b)] (bool (decide (a=b))):=by
 refine Ct.B func147 ?_;simp;rw[<-Sm];refine bM (λh1=>?_) (λh1=>?_)<;>simp only[h1]<;>simp
 ·refine CI.p (Sq a b hl) ?_;simp;exact aA (by simp[h1])
 ·exact aA (by simp[h1])
theorem zhz {a b:G.Frame}(h1:a.type=b.type)(h2:a.aM=b.aM)(h3:a.kind=b.kind)(h4:a.cN=b.cN)(h5:a.turn=b.turn)(h6:a.err=b.err):decide (a=b)=(decide (a.aD=b.aD)&&(decide (a.gone=b.gone)&&(decide (a.aP=b.aP)&&decide (a.held=b.held)))):=by
 obtain⟨a1,a2,a3,a4,a5,a6,a7,a8,a9,a10⟩:=a;obtain⟨b1,b2,b3,b4,b5,b6,b7,b8,b9,b10⟩:=b;simp only at h1 h2 h3 h4 h5 h6;subst h1 h2 h3 h4 h5 h6;rw[tQ];simp[and_assoc]
theorem zbu (a b:G.Frame)(hl:fJ a):C0 412 [st (cA a),st (cA b)] (bool (decide (a=b))):=by
 refine Ct.B func412 ?_;simp;refine cV (λh1 zz=>?_) (λh1 zz=>?_)<;>simp only[zz]<;>simp
 ·refine cV (λh2 zz=>?_) (λh2 zz=>?_)<;>simp only[zz]<;>simp
  ·refine cV (λh3 zz=>?_) (λh3 zz=>?_)<;>simp only[zz]<;>simp
   ·refine cV (λh4 zz=>?_) (λh4 zz=>?_)<;>simp only[zz]<;>simp
    ·refine cV (λh5 zz=>?_) (λh5 zz=>?_)<;>simp only[zz]<;>simp
     ·refine cV (λh6 zz=>?_) (λh6 zz=>?_)<;>simp only[zz]<;>simp
      ·rw[zhz h1 h2 h3 h4 h5 h6];refine CI.p (Ps a.aD b.aD (dE 147) (λx hx y=>bN.of (VO x y (hl.aD.all x hx)) call147 rfl rfl) hl.aD.len) ?_;simp;refine cV (λh7 zz=>?_) (λh7 zz=>?_)<;>simp only[zz]<;>simp
       ·refine CI.p (Y7 a.gone b.gone hl.gone) ?_;simp;refine cV (λh8 zz=>?_) (λh8 zz=>?_)<;>simp only[zz]<;>simp
        ·refine CI.p (zib a.aP b.aP hl.aP) ?_;simp;refine cV (λh9 zz=>?_) (λh9 zz=>?_)<;>simp only[zz]<;>simp
         ·refine CI.p (Y7 a.held b.held hl.held) ?_;simp;exact aA (by simp[h7,h8,h9])
         ·exact aA (by simp[h9])
        ·exact aA (by simp[h8])
       ·exact aA (by simp[h7])
      ·have e:¬a=b:=λe=>h6 (by rw[e]);exact aA (by simp[e])
     ·have e:¬a=b:=λe=>h5 (by rw[e]);exact aA (by simp[e])
    ·have e:¬a=b:=λe=>h4 (by rw[e]);exact aA (by simp[e])
   ·have e:¬a=b:=λe=>h3 (by rw[e]);exact aA (by simp[e])
  ·have e:¬a=b:=λe=>h2 (by rw[e]);exact aA (by simp[e])
 ·have e:¬a=b:=λe=>h1 (by rw[e]);exact aA (by simp[e])
attribute [simp] ntmps584 results584 ntmps540 results540 ntmps541 results541 ntmps478 results478 ntmps479 results479 ntmps477 results477 ntmps384 results384
noncomputable abbrev xO (S:List Key):D:=.mp true [.int,.str] false (o8 S)
noncomputable abbrev XF (S:List aC):D:=.mp true [.int,.str] false (lK S)
noncomputable abbrev GJ (l:List aC):List (Nat×aY):=[(0,.cells [.d (xO (l.map aC.key))] 581),(1,.cells [.own 4] 581),(2,.cells [.d (XF l)] 658),(3,.cells [.fn (.func 585) [] [.ptr 0 0,.ptr 1 0,.ptr 2 0,.ptr 3 0]] 660)]
theorem zfd (l:List aC)(ha:fA l)(hl:l.length<=100000):C0 584 [aB (l.map aF)] (.d (XF l)):=by
 refine Ct.B func584 ?_;simp;refine aH.V (l) (λk=>[(3,.own 64),(8,aB (l.map aF)),(9,int l.length),(10,int k.1)]) (λk=>[(64,.map true [.int,.str] false (lK (l.take k.1)))]) 65 (λk hk1 B hB=>?_) (h0:=by constructor<;>simp[Mm]);simp[Mm];rcases bC hk1 with⟨x,hk,hx,hr,hm,ht,hd,hw,h⟩|rfl
 ·simp[h,hr,hw];have hN:=zkF ha hr;have hL:=zfL hN;have hU:=Uw hN;have hr33:=zP x;refine CI.p (oK x) ?_;simp;refine CI.p (O2 x) ?_ (ha:=by simp[hL]);simp[hL];refine⟨by omega,?_⟩;refine dr ?_;exact hB hk (by constructor<;>simp[hw,ht,hU])
 ·simp;exact aA
theorem Ur (l:List aC)(hl:l.length<=100000):∀(n:Nat) (out:List Key) (k_:Key),uA l out<n->
  Ct prog 585 [st (aQ k_),.ptr 0 0,.ptr 1 0,.ptr 2 0,.ptr 3 0] (GJ l)
   [(4,.map true [.int,.str] false (o8 out))] (.aU []) [(4,.map true [.int,.str] false (o8 (iI l n out k_)))]:=by
 intro n;induction n with
 |zero=>intro out k_ h;omega
 |succ n ih=>
  intro out k_ hlt;refine Ct.DF func585 rfl mixed (by rw[ntmps585];simp) (CI.run 99 400 rfl ?_);simp[ntmps585,results585];cases hg:bI l k_ with
  |none=>
   have hn:k_∉l.map aC.key:=by rw[mem_keys,hg];simp
   have e:iI l (n+1) out k_=out:=by simp[iI,hg]
   have e1:=H8 hn;simp[e1];exact⟨[],by constructor<;>simp[aI,aJ,e]⟩
  |some r=>
   have hn:k_∈l.map aC.key:=by rw[mem_keys,hg];simp
   by_cases ho:k_∈out
   ·have e:iI l (n+1) out k_=out:=by simp[iI,hg,ho]
    have e1:=FA hn;have e2:=FA ho;simp[e1,e2];exact⟨[],by constructor<;>simp[aI,aJ,e]⟩
   ·have e:iI l (n+1) out k_=(cD r).foldl (iI l n) (out++[k_]):=by simp[iI,hg,ho]
    have hlt2:=Mw hn ho;have h33:=zP r;have e1:=FA hn;have e2:=H8 ho;have e3:=Mn hg;simp[e1,e2,e3];refine aH.V (cD r) (λk=>[(1,.ptr 0 0),(2,.ptr 1 0),(3,.ptr 2 0),(4,.ptr 3 0),(21,aB ((cD r).map aQ)),(22,int (cD r).length),(23,int k.1)]) (λk=>GJ l++[(4,.map true [.int,.str] false (o8 (((cD r).take k.1).foldl (iI l n) (out++[k_]))))]) 64 (λk hk1 B hB=>?_);simp;rcases bC hk1 with⟨x,hk,hx,hr,hm,ht,hd,hw,h⟩|rfl
    ·simp[h,hr,hw];have h5:uA l (((cD r).take k).foldl (iI l n) (out++[k_]))<n:=by
      have:=XW (l:=l) (λy hy=>IK (EL l n) ((cD r).take k) (out++[k_]) y hy);omega
     refine CI.cc [0,1,2,3,4] (ih (((cD r).take k).foldl (iI l n) (out++[k_])) x h5) ?_ (ha:=by simp[GJ]) (hk:=by simp[GJ]);simp[GJ];exact hB hk (by constructor<;>simp[hw,ht,GJ,qY])
    ·simp;rw[<-e];exact⟨[],by constructor<;>simp[aI,aJ]⟩
theorem zcu (l:List aC)(ha:fA l)(hl:l.length<=100000):C0 540 [aB (l.map aF)] (.d (xO (sY l))):=by
 refine Ct.B func540 ?_;simp;refine CI.p (WV l (by omega)) ?_;simp;refine CI.p (zfd l ha hl) ?_;simp;have rootsR_nil:tU []=[]:=rfl;refine aH.V (l) (λk=>[(3,.ptr 64 0),(4,.ptr 66 0),(5,.ptr 65 0),(6,.ptr 67 0),(15,aB (l.map aF)),(16,int l.length),(17,int k.1)]) (λk=>[(64,.cells [.d (xO (l.map aC.key))] 581),(65,.cells [.own 68] 581),(66,.cells [.d (XF l)] 658),(67,.cells [.fn (.func 585) [] [.ptr 64 0,.ptr 65 0,.ptr 66 0,.ptr 67 0]] 660),(68,.map true [.int,.str] false (o8 ((tU (l.take k.1)).foldl (iI l (l.length+1)) [])))]) 69 (λk hk1 B hB=>?_) (h0:=by constructor<;>simp[H9,rootsR_nil]);simp[H9,rootsR_nil];rcases bC hk1 with⟨x,hk,hx,hr,hm,ht,hd,hw,h⟩|rfl
 ·simp[h,hr,hw];refine aX (λh0 zz=>?_) (λh0 zz=>?_)<;>simp only[zz]<;>simp
  ·have h5:=Mx l ((tU (l.take k)).foldl (iI l (l.length+1)) []);refine CI.p (oK x) ?_;simp;refine CI.cc [64,65,66,67,68] (Ur l hl (l.length+1) ((tU (l.take k)).foldl (iI l (l.length+1)) []) x.key (by omega)) ?_;simp;refine dr ?_;exact hB hk (by constructor<;>simp[hw,ht,OV,h0,qY])
  ·exact hB hk (by constructor<;>simp[hw,ht,OV,h0])
 ·simp;exact aA (by simp[sY])
theorem zcy (S:List Key)(r:aC):C0 541 [st (aF r),.d (.bE [xO S])] (bool (!decide (r.key∈S))):=by
 refine Ct.B func541 ?_;simp;by_cases h:r.key∈S
 ·have e1:=FA h;refine CI.p (oK r) ?_ (ha:=by simp[e1]);simp[e1];refine dr ?_;exact aA (by simp[h])
 ·have e1:=H8 h;refine CI.p (oK r) ?_ (ha:=by simp[e1]);simp[e1];refine dr ?_;exact aA (by simp[h])
theorem zaY (l:List aC)(k_:Key):C0 478 [st (aQ k_),.d (.bE [xO (l.map aC.key)])] (bool (iF l k_)):=by
 refine Ct.B func478 ?_;simp;by_cases h:k_∈l.map aC.key
 ·have e1:=FA h;have e2:iF l k_=false:=by simp[iF,mem_keys.1 h]
  simp[e1];exact aA (by simp[e2])
 ·have e1:=H8 h;have e2:iF l k_=true:=by
   cases h':(bI l k_).isSome
   ·simp[iF,h']
   ·exact absurd (mem_keys.2 h') h
  simp[e1];exact aA (by simp[e2])
theorem zaX (r:aC):C0 479 [st (aF r)] (bool (xZ r)):=by
 refine Ct.B func479 ?_;simp;refine bM (λh1=>?_) (λh1=>?_)<;>simp only[h1]<;>simp
 ·exact aA (by simp[xZ,h1])
 ·exact aA (by simp[xZ,h1])
theorem VX (l:List aC)(ha:fA l)(hl:l.length<=100000):C0 477 [aB (l.map aF)] (aB ((gW l).map aF)):=by
 refine Ct.BS func477 mixed 2 400 ?_;simp;refine CI.pS (zcu l ha hl) call540 2 ?_;simp;refine CI.s (tm:=[(0,aB (l.map aF)),(3,.d (.bE [xO (sY l)]))]) (mm:=[]) (nx:=65) [] [256] (by constructor<;>simp) ?_;refine CI.n ?_;simp;obtain⟨S,hS⟩:∃S,sY l=S:=⟨_,rfl⟩;have e:gW l=l.filter λr=>!(!decide (r.key∈S)):=by simp[gW,hS]
 rw[hS,e];clear e hS;cases l with
 |nil=>
  refine CI.p R6 ?_;simp;refine CI.p (RT (.fn (.func 541) [] [.bE [xO S]])) ?_;simp;exact aA
 |cons x l=>
  refine CI.cc [] (R4 x l (by simp at hl;omega)) ?_;simp;refine CI.cc [129] (RW (x::l) (.fn (.func 541) [] [.bE [xO S]]) (λr=>!decide (r.key∈S)) (λr hr=>bN.nZ (by exact zcy S r) call541 rfl rfl) (by omega)) ?_;simp;exact aA
theorem VB (l:List aC)(ha:fA l)(hl:l.length<=100000):C0 384 [aB (l.map aF)] (int (mO l)):=by
 refine Ct.BS func384 mixed 2 400 ?_;simp;refine CI.pS (WV l (by omega)) call473 2 ?_;simp;refine CI.s (tm:=[(0,aB (l.map aF)),(3,.d (.bE [xO (l.map aC.key)]))]) (mm:=[]) (nx:=65) [] [256] (by constructor<;>simp) ?_;refine CI.n ?_;simp;refine CI.p (VX l ha hl) ?_;simp;have hlr:(gW l).length<=l.length:=gJ _ _;refine aH.inv mixed rfl (ι:={k:Nat//k<=((gW l)).length/\((gW l).take k).all (λr=>!((cD r).any (iF l)))=true}) (λk=>[(3,.d (.bE [xO (l.map aC.key)])),(4,aB ((gW l).map aF)),(11,aB ((gW l).map aF)),(12,int (gW l).length),(13,int k.1)]) (λk=>[]) 65 (λk=>((gW l)).length-k.1) ⟨0,by omega,by simp⟩ [] (by constructor<;>simp) ?_;rintro⟨k,hk1,hi⟩ B hB;refine CI.n ?_;simp;rcases bC hk1 with⟨x,hk,hx,hr,hm,ht,hd,hw,h⟩|rfl
 ·simp[h,hr,hw];have h33:=zP x;refine CI.p (O2 x) ?_;simp;refine CI.p (S7 (cD x) (.fn (.func 478) [] [.bE [xO (l.map aC.key)]]) (iF l) (λq _=>bN.nZ (by exact zaY l q) call478 rfl rfl) (by omega)) ?_;simp;refine bQ (λh1=>?_) (λh1=>?_)<;>simp only[h1]<;>simp
  ·have e0:((gW l).any λr=>(cD r).any (iF l))=true:=CO.2 ⟨x,hm,h1⟩;have e:mO l=6:=by unfold mO;rw[aZ e0]
   exact aA (by simp[e])
  ·refine hB _ ⟨k+1,by omega,by simp[ht,hi,h1]⟩ [] ?_ (by simp;omega);constructor<;>simp[hw,ht,h1]
 ·simp;rw[bX]at hi;have e0:((gW l).any λr=>(cD r).any (iF l))=false:=by
   rw[JV];intro y hy;have:=dP.1 hi y hy;rw[EK]at this;rw[this];exact TW
  refine CI.p (Se (gW l) (dE 479) xZ (λx _=>bN.of (zaX x) call479 rfl rfl) (by omega)) ?_;simp;refine bQ (λh1=>?_) (λh1=>?_)<;>simp only[h1]<;>simp
  ·have e:mO l=7:=by unfold mO;rw[aT (by rw[e0];exact TW),aZ h1]
   exact aA (by simp[e])
  ·have e:mO l=0:=by unfold mO;rw[aT (by rw[e0];exact TW),aT (by rw[h1];exact TW)]
   exact aA (by simp[e])
end Go.Proofs.YtobcmagefgdgdaaGreatDoor
namespace Go.G
open Go.AI
def UY (now:List aC)(x:aC)(v:Int):Int:=match bI now x.key with
 |some o=>if jF o x then o.bR else v
 |none=>v
def sT (now l:List aC)(v:Int)(k:Nat):List aC:=kI now (l.take k) v++l.drop k
section
variable {now l : List aC} {v : Int} {k : Nat} {x : aC}
theorem Db :sT now l v 0=l:=by simp[sT,kI]
theorem Yv :sT now l v l.length=kI now l v:=by simp[sT]
theorem Yt :(sT now l v k).length=l.length:=by simp[sT,kI];omega
theorem Yu (hr:l[k]? =some x):(sT now l v k)[k]? =some x:=by
 have hk:=(cE.1 hr).1;have e:(kI now (l.take k) v).length=k:=by simp[kI];omega
 rw[sT,tN (by omega),e,CN];simpa using hr
theorem Ys (hr:l[k]? =some x):(List.map aF (sT now l v k)).set k (aF {x with bR:=UY now x v})=List.map aF (sT now l v (k+1)):=by
 have hk:=(cE.1 hr).1;have e:(kI now (l.take k) v).length=k:=by simp[kI];omega
 rw[<-GD,sT,sT,List.set_append_right _ _ (by omega),e,Nat.sub_self,tP hk,List.set_cons_zero,jH,hr];have e2:l[k]=x:=(cE.1 hr).2;simp[kI,UY];cases bI now x.key<;>rfl
end
end Go.G
namespace Go.Proofs.YtobcmagefgdgdaaGreatDoor
open Go.AI Go.G Tryz
attribute [simp] ntmps507 results507 ntmps544 results544 ntmps173 results173 ntmps84 results84 ntmps302 results302
theorem zgQ (kf:D):C0 507 [aB [],.d kf] (int (-1)):=by
 refine Ct.B func507 ?_;simp;refine aH.un ?_;simp;exact aA
theorem ZH (kf:D):C0 544 [aB [],.d kf] (aB []):=by
 refine Ct.B func544 ?_;simp;refine CI.p (zgQ kf) ?_;simp;exact aA
theorem YG (l:List Key)(kf:D)(p:Key->Bool)(hf:∀x∈l,bN prog (.d kf) [st (aQ x)] (bool (p x)))(hl:l.length<=9223372036854775807):C1 507 [.own 0,.d kf] [(0,.grow 2 (l.map aQ) 184)] [] (int (iZ p l)) []:=by
 refine Ct.B func507 ?_;simp;refine aH.inv mixed rfl (ι:={k:Nat//k<=(l).length/\(l.take k).all (λx=>!p x)=true}) (λk=>[(0,.own 0),(1,.d kf),(7,int l.length),(8,int k.1)]) (λk=>[(0,.grow 2 (l.map aQ) 184)]) 64 (λk=>(l).length-k.1) ⟨0,by omega,by simp⟩ [] (by constructor<;>simp) ?_;rintro⟨k,hk1,hi⟩ B hB;refine CI.n ?_;simp;rcases bC hk1 with⟨r,hk,hx,hr,hm,ht,hd,hw,h⟩|rfl
 ·simp[h,hr,hw,hk];refine CI.ff (hf r hm) rfl rfl rfl ?_ (ha:=by simp[hx]);simp[hx];refine bQ (λhp=>?_) (λhp=>?_)<;>simp only[hp]<;>simp
  ·have e:=yR hi hr hp;exact⟨[],by constructor<;>simp[aI,aJ,e]⟩
  ·refine hB _ ⟨k+1,by omega,by simp[ht,hi,hp]⟩ [] ?_ (by simp;omega);constructor<;>simp[hw,ht,hp]
 ·simp;rw[bX]at hi;have e:iZ p l= -1:=yQ (λx hx=>by have:=dP.1 hi x hx;simpa using this);exact⟨[],by constructor<;>simp[aI,aJ,e]⟩
theorem RU (l:List Key)(kf:D)(p:Key->Bool)(hf:∀x∈l,bN prog (.d kf) [st (aQ x)] (bool (p x)))(hl:l.length<=1000000):C1 544 [.own 0,.d kf] [] [(0,.grow 2 (l.map aQ) 184)] (aB ((l.filter λx=>!p x).map aQ)) []:=by
 refine Ct.B func544 ?_;simp;refine CI.cc [0] (YG l kf p hf (by omega)) ?_;simp;rcases IP p l with⟨h1,h2⟩|⟨i,x,h1,h2,h3,h4⟩
 ·have e:(l.filter λx=>!p x)=l:=by
   rw[JS];intro a ha;have:=MX.1 h2 a ha;simpa using this
  simp[h1];exact⟨[],by constructor<;>simp[aI,aJ,e]⟩
 ·have hne:¬(i:Int)= -1:=by omega
  have hwi:IntKind.wrap .i64 ((i:Int)+1)=i+1:=wz _;simp[h1,hne,hwi];have d0:=pW.start (x:=x) h1 h2;refine aH.inv mixed rfl (ι:={q:Nat×Nat×List Key//pW p l q.1 q.2.1 q.2.2}) (λk=>[(0,.own 0),(1,.d kf),(5,int k.1.2.1),(6,int k.1.1)]) (λk=>[(0,.grow 2 (k.1.2.2.map aQ) 184)]) 64 (λk=>l.length-k.1.1) ⟨(i+1,i,l),d0⟩ [] (by constructor<;>simp) ?_;rintro⟨⟨j,i,cur⟩,hd⟩ B hB;clear h1 h2 h3 h4 hne hwi d0;have hlen:=hd.len;have hlt:=hd.lt;have hle:=hd.le;simp only at hlen hlt hle;have w1:IntKind.wrap .i64 ((j:Int)+1)=j+1:=wz _;have w2:IntKind.wrap .i64 ((i:Int)+1)=i+1:=wz _;refine CI.n ?_;simp[hlen];refine aX (λh zz=>?_) (λh zz=>?_)<;>simp only[zz]<;>simp
  ·have hj:j<l.length:=by omega
   have hv:l[j]? =some l[j]:=bO hj;have hm:l[j]∈l:=mF hj;generalize l[j]=v at hv hm;have hg:=hd.get hv;have hjc:j<cur.length:=by omega
   have hgx:cur[j]=v:=by rw[bO hjc]at hg;exact mW hg
   simp[hjc,hgx];refine CI.ff (hf v hm) rfl rfl rfl ?_;simp;have hic:i<cur.length:=by omega
   refine bQ (λh2=>?_) (λh2=>?_)<;>simp only[h2]<;>simp[hic]
   ·have hp:p v=false:=by simpa using h2
    refine hB _ ⟨(j+1,i+1,cur.set i v),hd.keep hv hp⟩ [] ?_ (by simp;omega);constructor<;>simp[w1,w2,GD]
   ·have hp:p v=true:=by simpa using h2
    refine hB _ ⟨(j+1,i,cur),hd.del hv hp⟩ [] ?_ (by simp;omega);constructor<;>simp[w1]
  ·have hj:j=l.length:=by omega
   subst hj;have e:cur.take i=l.filter (λx=>!p x):=hd.done;simp[hlen];have e2:List.take i (List.map aQ cur)=List.map aQ (List.filter (λx=>!p x) l):=by rw[<-zB,e]
   have e3:(List.filter (λx=>!p x) l).length=i:=by rw[<-e,CL];omega
   refine⟨by omega,by omega,by omega,?_⟩;rw[e2];exact⟨[],by constructor<;>simp[aI,aJ,e3,List.take_append,show i<=i+(l.length-i+(l.length-(i+(l.length-i))))from by omega]⟩
theorem QU (l:List aC)(hl:l.length<=1000000):C1 173 [aB (l.map aF)] [] [] (.own 64) [(64,.grow 2 ((l.map aC.key).map aQ) 184)]:=by
 refine Ct.B func173 ?_;simp;refine aH.gH 3 2 184 rfl ?_;refine aH.V (l) (λk=>[(3,.own 64),(6,aB (l.map aF)),(7,int l.length),(8,int k.1)]) (λk=>[(64,.grow 2 (((l.take k.1).map aC.key).map aQ) 184)]) 65 (λk hk1 B hB=>?_);simp;rcases bC hk1 with⟨x,hk,hx,hr,hm,ht,hd,hw,h⟩|rfl
 ·simp[h,hr,hw];refine CI.p (oK x) ?_;simp;refine⟨by omega,?_⟩;exact hB hk (by constructor<;>simp[hw,ht])
 ·simp;exact⟨[(64,64)],by constructor<;>simp[aI,aJ]⟩
theorem J6 (a b:List aC)(ha:cL a):C0 84 [aB (a.map aF),aB (b.map aF)] (bool (decide (a=b))):=by
 refine Ct.B func84 ?_;simp;refine CI.p (Ps a b (dE 147) (λx hx y=>bN.of (VO x y (ha.all x hx)) call147 rfl rfl) ha.len) ?_;simp;exact aA
theorem zja (l:List aC)(h:¬l=[])(hl:l.length<=1000000):C1 378 [aB (l.map aF)] [] [] (.own 64) [(64,.grow 7 (l.map aF) 174)]:=by
 cases l with
 |nil=>exact absurd rfl h
 |cons x l=>exact R4 x l (by simp at hl;omega)
theorem Yn (now l:List aC)(v:Int)(hn:cL now)(hl:l.length<=1000000)(hne:¬l=[]):C0 302 [aB (now.map aF),aB (l.map aF),int v] (aB ((kI now l v).map aF)):=by
 refine Ct.B func302 ?_;simp;refine CI.cc [] (zja l hne hl) ?_;simp;refine aH.V (l) (λk=>[(0,aB (now.map aF)),(2,int v),(7,.own 64),(14,aB (l.map aF)),(15,int l.length),(16,int k.1)]) (λk=>[(64,.grow 7 ((sT now l v k.1).map aF) 174)]) 65 (λk hk1 B hB=>?_) (h0:=by constructor<;>simp[Db]);simp[Db];rcases bC hk1 with⟨x,hk,hx,hr,hm,ht,hd,hw,h⟩|rfl
 ·simp[h,hr,hw];have s1:(sT now l v k).length=l.length:=Yt;have s2:(sT now l v k)[k]? =some x:=Yu hr;have s3:=Ys (now:=now) (v:=v) hr;simp only[aF,UY]at s3;have s4:∀h,(sT now l v k)[k]'h=x:=λh=>mW ((bO h).symm.trans s2);simp[s1,hk,s4];refine CI.p (oK x) ?_;simp;refine CI.p (YS now x.key hn.len) ?_;simp;cases hg:bI now x.key with
  |none=>
   simp only[hg]at s3;simp;exact hB hk (by constructor<;>simp[hw,ht,s3])
  |some o=>
   simp only[hg]at s3;simp;have ho:y2 o:=hn.all o (BU hg);refine CI.p (Sq o x ho) ?_;simp;refine bQ (λh3=>?_) (λh3=>?_)<;>simp only[h3]<;>simp
   ·rw[aZ h3]at s3;simp[s1,hk,s4];exact hB hk (by constructor<;>simp[hw,ht,s3])
   ·rw[aT (by rw[h3];exact TW)]at s3;exact hB hk (by constructor<;>simp[hw,ht,s3])
 ·simp;exact aA (by simp[Yv])
theorem Yr (now:List aC)(v:Int):C0 302 [aB (now.map aF),aB [],int v] (aB []):=by
 refine Ct.B func302 ?_;simp;refine CI.p R6 ?_;simp;refine aH.un ?_;simp;exact aA
end Go.Proofs.YtobcmagefgdgdaaGreatDoor
namespace Go.G
open Go.AI
theorem vZ {l:List aC}(h:eB l=0):l.length<=64:=by
 unfold eB at h;split at h
 ·cases h
 ·omega
end Go.G
namespace Go.Proofs.YtobcmagefgdgdaaGreatDoor
open Go.AI Go.G Tryz
attribute [simp] ntmps145 results145 ntmps304 results304 ntmps221 results221
theorem X2 (s:aW)(hs:¬s.bA=[])(hl:s.bA.length<=1000000):C0 145 [st (eW s)] (aB ((dQ s).map aF)):=by
 refine Ct.B func145 ?_;simp;have h0:0<s.bA.length:=vS.2 hs;have hw:IntKind.wrap .i64 ((s.bA.length:Int)-1)=((s.bA.length-1:Nat):Int):=by rw[wz _];omega
 have e:s.bA[s.bA.length-1]? =some (dQ s):=by
  rw[dQ,Ah,GF];rw[bO (by omega)];rfl
 simp[hw,e];exact aA
abbrev vL (e:Int):AV:=if e=0 then .d (.v .nilIface)else .gB 436 (.ptr 64 0)
abbrev vK (e:Int)(n:Nat):List (Nat×aY):=if e=0 then []else [(64,.cells [int e,int n] 440)]
theorem zjk (s:aW)(l:List aC)(hs:¬s.bA=[])(hl:s.bA.length<=1000000)(hok:cL (dQ s)):C1 304 [st (eW s),aB (l.map aF)] [] [] (vL (jM s.cap s.bA.length (dQ s) l)) (vK (jM s.cap s.bA.length (dQ s) l) s.bA.length):=by
 refine Ct.B func304 ?_;simp;refine CI.p (J3 l) ?_;simp;by_cases h1:eB l=0
 ·simp[h1];have h64:=vZ h1;have ha:=xA h1;refine aX (λh2 zz=>?_) (λh2 zz=>?_)<;>simp only[zz]<;>simp
  ·have e:jM s.cap s.bA.length (dQ s) l=8:=by simp[jM,h1,h2]
   rw[e];exact⟨[(64,1280)],by constructor<;>simp[aI,aJ,vL,vK]⟩
  ·have hm:=KZ l l;refine CI.p (zfs l (by omega)) ?_;simp;refine aX (λh3 zz=>?_) (λh3 zz=>?_)<;>simp only[zz]<;>simp
   ·have h3':¬(xK l).length=0:=by omega
    have e:jM s.cap s.bA.length (dQ s) l=6:=by simp only[jM,aZ h1,aT h2,aZ h3']
    rw[e];exact⟨[(64,1600)],by constructor<;>simp[aI,aJ,vL,vK]⟩
   ·have h3':¬¬(xK l).length=0:=by omega
    refine CI.p (VB l ha (by omega)) ?_;simp;by_cases h4:mO l=0
    ·have h4':¬¬mO l=0:=λh=>h h4;simp[h4];refine CI.p (X2 s hs hl) ?_;simp;refine CI.p (J6 (dQ s) l hok) ?_;simp;by_cases h5:dQ s=l
     ·have e:jM s.cap s.bA.length (dQ s) l=9:=by simp only[jM,aZ h1,aT h2,aT h3',aT h4',aZ h5]
      rw[e];simp[h5];exact⟨[(64,2176)],by constructor<;>simp[aI,aJ,vL,vK]⟩
     ·simp[h5];refine aX (λh6 zz=>?_) (λh6 zz=>?_)<;>simp only[zz]<;>simp
      ·have e:jM s.cap s.bA.length (dQ s) l=8:=by simp only[jM,aZ h1,aT h2,aT h3',aT h4',aT h5,aZ (show 100000<=s.bA.length by omega)]
       rw[e];exact⟨[(64,2368)],by constructor<;>simp[aI,aJ,vL,vK]⟩
      ·have e:jM s.cap s.bA.length (dQ s) l=0:=by simp only[jM,aZ h1,aT h2,aT h3',aT h4',aT h5,aT (show¬100000<=s.bA.length by omega)]
       rw[e];exact⟨[],by constructor<;>simp[aI,aJ,vL,vK]⟩
    ·have e:jM s.cap s.bA.length (dQ s) l=7:=by simp only[jM,aZ h1,aT h2,aT h3',aZ h4]
     rw[e];simp[h4];exact⟨[(64,1856)],by constructor<;>simp[aI,aJ,vL,vK]⟩
 ·have e:jM s.cap s.bA.length (dQ s) l=eB l:=by simp[jM,h1]
  simp[h1];rw[e];simp only[vL,vK,aT h1];exact⟨[(64,960)],by constructor<;>simp[aI,aJ]⟩
theorem Yp (now l:List aC)(v:Int)(hn:cL now)(hl:l.length<=1000000):C0 302 [aB (now.map aF),aB (l.map aF),int v] (aB ((kI now l v).map aF)):=by
 by_cases h:l=[]
 ·subst h;exact Yr now v
 ·exact Yn now l v hn hl h
theorem zc1 (s:aW)(aD:List aC)(gone:List Key)(hs:¬s.bA=[])(hl:s.bA.length<=1000000)(hok:cL (dQ s))(hn:(dQ s).length+aD.length<=1000000)(hg:gone.length<=9223372036854775807):C1 221 [st (eW s),aB (aD.map aF),aB (gone.map aQ)] [] [] (.aU [st (eW (oY s aD gone)),vL (oZ s aD gone)]) (vK (oZ s aD gone) s.bA.length):=by
 refine Ct.B func221 ?_;simp;refine CI.p (X2 s hs hl) ?_;simp;refine CI.p (PK (dQ s) aD gone hn hg) ?_;simp;have hpl:(iC (dQ s) aD gone).length<=1000000:=dH (WE _ _ _) hn;refine CI.p (Yp (dQ s) (iC (dQ s) aD gone) s.bA.length hok hpl) ?_;simp;refine dr ?_;have hc:=zjk s (u0 s aD gone) hs hl hok;change Ct _ _ _ _ _ (vL (oZ s aD gone)) (vK (oZ s aD gone) s.bA.length)at hc;by_cases he:oZ s aD gone=0
 ·have e:oY s aD gone=⟨s.cap,s.bA++[u0 s aD gone]⟩:=aZ he;rw[e];simp only[vL,vK,aZ he]at hc⊢;refine CI.p hc ?_ (ha:=by simp[u0]);simp[u0];refine⟨by omega,?_⟩;refine dr ?_;exact aA (by simp[u0])
 ·have e:oY s aD gone=s:=aT he;rw[e];simp only[vL,vK,aT he]at hc⊢;refine CI.cc [] hc ?_ (ha:=by simp[u0]) (hk:=by simp[u0]);simp[u0];exact⟨[(64,1216)],by constructor<;>simp[aI,aJ]⟩
end Go.Proofs.YtobcmagefgdgdaaGreatDoor
section
namespace Go.AI
noncomputable def C7 :Code->Option Code
 |.seq a b=>match C7 a with
  |some c=>some c
  |none=>C7 b
 |.block _ a=>C7 a
 |.rangeFunc _ _ c _=>some c
 |_=>none
noncomputable def C6 :Code->Option Code
 |.seq a b=>match C6 a with
  |some c=>some c
  |none=>C6 b
 |.block _ a=>C6 a
 |.rangeFunc _ _ _ c=>some c
 |_=>none
end Go.AI
open Go.RowKit Go.Shelf
namespace Go.Proofs.YtobcmagefgdgdaaGreatDoor
open Go.AI Go.G Tryz
attribute [simp] ntmps586 results586
noncomputable abbrev nU (S:List aC):List (Nat×aY):=[(0,.cells [.own 1] 635),(1,.map true [.int,.str] true (tC S))]
noncomputable abbrev YH (x:aC)(S:List aC):List (Nat×aY):=[(0,.cells [.own 1] 635),(1,.map true [.int,.str] true (tC S)),(64,.cells ((aF x).map .d) 174)]
theorem zgM (x:aC)(S:List aC)(L dp:Nat){c:Code}(hc:(Tryz.f542.body.bind C7)=some c):
  CI (some L) dp (λ_ _ _=>True) prog 16 (λe y=>e=.normal/\AI.Sub y [(3,.ptr 0 0),(5,.ptr 64 0)] (YH x S) 65 []) [.code c] ⟨[(3,.ptr 0 0),(10,st (aF x))],(nU S).map (λp=>(p.1,some p.2)),64⟩:=by
 simp only[Tryz.f542,JJ,C7,pX]at hc;subst hc;refine CI.n ?_;simp;constructor<;>simp
theorem zgL (x:aC)(S:List aC)(L dp:Nat){c:Code}(hc:(Tryz.f542.body.bind C6)=some c):
  CI (some L) dp (λ_ _ _=>True) prog 16 (OW (nU S) (nU (x::S))) [.code c] ⟨[(3,.ptr 0 0),(5,.ptr 64 0)],(YH x S).map (λp=>(p.1,some p.2)),65⟩:=by
 simp only[Tryz.f542,JJ,C6,pX]at hc;subst hc;have hU:=Uv S x;refine CI.n ?_;simp;refine CI.p (oK x) ?_;simp;have hU':=hU;simp only[aF]at hU';refine⟨by decide+kernel,rfl,?_⟩;refine⟨?_,?_,?_,?_,?_,?_,?_⟩<;>simp[aI,aJ,hU']
theorem zkc (l:List aC)(hl:l.length<=1000000)(L dp:Nat)(r:Loop)(s0:Names)(T:Array Value)(hT:T.size=16){H:Nat}(hT3:T[3]? =some (.pointer (some ⟨H,0,none⟩)))(hs0:s0 0=some (.pointer (some ⟨H,0,none⟩)))
  {ca cb:Code} (hca:(Tryz.f542.body.bind C7)=some ca) (hcb:(Tryz.f542.body.bind C6)=some cb) (hrs:r.state=.ready) (hrp:r.pending=none) (hrt:r.tmps=T) (hra:r.assign=ca) (hrb:r.body=cb) (hps:r.params=#[9,10])
  {c:Code} (hc:Tryz.f604.body=some c):
  CI none dp (JC s0 L r) prog 19 (λe y=>(e=.normal\/e=.ret)/\y4 (cK y.mm) (.d (.v undef)) (nU []) (.d (.v undef)) (nU l) []) [.code c] ⟨uF 0 [.d (.fn (.yield L) [] []),.d (.bE [lD (l.map aF)])],(nU []).map (λp=>(p.1,some p.2)),64⟩:=by
 simp only[Tryz.f604,pX]at hc;subst hc;have hw0:=wz ((l.length:Int)-1);refine CI.n ?_;simp[hw0];refine aH.inv mixed rfl (ι:={j:Nat//j<=l.length}) (λj=>[(0,.d (.fn (.yield L) [] [])),(1,.d (.bE [lD (l.map aF)])),(3,int ((j.1:Int)-1))]) (λj=>nU (l.drop j.1)) 64 (λj=>j.1) ⟨l.length,bY _⟩ [] (by constructor<;>simp[Ml]) ?_;rintro⟨j,hj⟩ B hB;refine CI.n ?_;simp;refine aX (λh zz=>?_) (λh zz=>?_)<;>simp only[zz]<;>simp
 ·have hlt:j-1<l.length:=by omega
  obtain⟨x,hx⟩:∃x,l[j-1]? =some x:=⟨_,bO hlt⟩;have hxe:l[j-1]=x:=(cE.1 hx).2;have hj1:((j:Int)-1)=((j-1:Nat):Int):=by omega
  have hd:l.drop (j-1)=x::l.drop j:=by
   have:=tP hlt;rw[hxe,show j-1+1=j by omega]at this;exact this
  simp[hj1,hlt,hxe,h];refine CI.yield (tmA:=[(3,.ptr 0 0),(10,st (aF x))]) (tmB:=[(3,.ptr 0 0),(5,.ptr 64 0)]) (m0:=nU (l.drop j)) (m1:=nU (x::l.drop j)) (mB:=YH x (l.drop j)) (nxB:=65) (ntA:=16) mixed hrs hrp (by rw[hrt,hT]) ?_ ?_ rfl (.inl rfl) rfl rfl ?_ ?_ ?_ ?_ ?_ ?_ ?_ ?_
  ·rw[hra];exact zgM x (l.drop j) L _ hca
  ·rw[hrb];exact zgL x (l.drop j) L _ hcb
  ·simp
  ·simp[hps]
  ·intro σ I w vs hk hl ha t
   match vs,hl with
   |[v0,v1],_=>
    have h1:=ha 1 _ v1 (by simp;rfl) rfl (by simp[fH,fH.iU]) (by simp[AV.bU]);rw[hps,hrt];simp only[cI];by_cases t3:3=t
    ·subst t3;simp[hT3];exact .ptr (hk 0 _ hs0 (by omega))
    ·by_cases t10:10=t
     ·subst t10;simp[hT];exact h1
     ·simp only[aT t3,aT t10];exact .any _
  ·intro p hp;simp at hp;rcases hp with rfl|rfl<;>simp[aJ,fH,fH.iU,aY.bU,AV.bU]
  ·intro p hp;simp at hp;rcases hp with rfl|rfl<;>simp[aY.bU,AV.bU]
  ·intro p hp;simp at hp;rcases hp with rfl|rfl<;>simp[bB]
  ·intro p hp;simp at hp;rcases hp with rfl|rfl<;>simp
  ·refine CI.A8 99 400 rfl ?_;simp[CP];have hw:=wz (((j-1:Nat):Int)-1);refine hB _ ⟨j-1,by omega⟩ [] ?_ (by simp;omega);constructor<;>simp[hw,hd]
 ·have hj0:j=0:=by omega
  subst hj0;refine⟨?_,?_,?_,?_,?_,?_,?_⟩<;>simp[aI,aJ]
def vI (H M:Nat):Names:=λb=>if b=0 then some (.pointer (some ⟨H,0,none⟩))else if b=1 then some (.map (some M))else none
theorem zkd (l:List aC)(hl:l.length<=1000000)(L n:Nat)(r:Loop)(T:Array Value)(hT:T.size=16){H M:Nat}(hT3:T[3]? =some (.pointer (some ⟨H,0,none⟩)))
  {ca cb:Code} (hca:(Tryz.f542.body.bind C7)=some ca) (hcb:(Tryz.f542.body.bind C6)=some cb) (hrs:r.state=.ready) (hrp:r.pending=none) (hrt:r.tmps=T) (hra:r.assign=ca) (hrb:r.body=cb) (hps:r.params=#[9,10])
  {W:World} {I:Nat->Prop} {v:Value} (hib:∀n,I n->n<W.heap.size) (hrm:RM (vI H M) I W (bB (nU []))) (hv:RD I W (.bE [lD (l.map aF)]) v) (hL:W.heap[L]? =some (.loop r)) (hI:¬I L):
  CallsIn (FW none) n prog 604 #[.func (.yield L) #[] #[],v] W λe W'=>(∃u,e=.returned u)/\∃I',eG (vI H M) I W (bB (nU [])) 64 (vI H M) I' W' (bB (nU l)):=by
 refine callsIn_of_wp (F:=FW none) func604 rfl trivial ?_ rfl
 let E:Ctx:={P:=prog,w0:=W,uJ:=eZ (vI H M) (bB (nU [])),I0:=I,nt:=19,s0:=vI H M}
 have hlow:∀b,64<=b->vI H M b=none:=λb hb=>by unfold vI;rw[aT (by omega),aT (by omega)]
 have hlk:cK ((nU []).map λp=>(p.1,some p.2))=bB (nU []):=FB _
 have hrel:Rel E (X.den ⟨uF 0 [.d (.fn (.yield L) [] []),.d (.bE [lD (l.map aF)])],(nU []).map (λp=>(p.1,some p.2)),64⟩)
   {tmps:=#[.func (.yield L) #[] #[],v]++Array.replicate (Tryz.f604.ntmps-(#[Value.func (.yield L) #[] #[],v]:Array Value).size) undef,defers:=[]} W:=by
  refine⟨vI H M,I,?_,rfl,λt=>?_,?_,λb hb=>hlow b hb,hib,λ_ h=>h,λn h=>.inl h,λn h=>?_,rfl,rfl,⟨rfl,bY _⟩,bY _,λ_ _ _=>rfl,λ_ _ h=>h,hlow⟩
  ·simp[E,ntmps604]
  ·simp only[X.den,QH,y8,fK,MQ]
   match t with
   |0=>
    simp;exact .d (.fn (xs:=[]) (ys:=[]) rfl rfl (λi c x h=>by simp at h) (λi c x h=>by simp at h))
   |1=>
    simp;exact .d hv
   |t+2=>exact .any _
  ·show RM (vI H M) I W (cK _);rw[hlk];exact hrm
  ·have h':eZ (vI H M) (cK ((nU []).map λp=>(p.1,some p.2))) n:=h;rw[hlk]at h';exact .inl h'
 have hw:=(AO mixed (zkc l hl L n r (vI H M) T hT hT3 rfl hca hcb hrs hrp hrt hra hrb hps rfl) E rfl rfl (JC.zeC (m0:=nU []) (I0:=I) rfl rfl rfl hrm hL hI)).1 rfl _ W hrel;simp only[eE]at hw;refine AP hw (λe a W' hq=>?_);obtain⟨y,⟨σf,If,hr⟩,he,hfin⟩:tE E (λe y=>(e=.normal\/e=.ret)/\y4 (cK y.mm) (.d (.v undef)) (nU []) (.d (.v undef)) (nU l) []) e a W':=by
  cases e<;>simpa[eE]using hq
 have hpost:=zda (w:=W) (σ:=vI H M) (I:=I) rfl rfl rfl rfl hrm hr hfin;have hres:(results Tryz.f604 a.tmps).run prog W'=.ok (.tuple #[]) W':=VR (vs:=[]) (by
  show(([]:List ResultVar).mapM (C9 a.tmps)).run prog W'=.ok [] W';rw[List.mapM_nil];rfl)
 rcases he with rfl|rfl
 ·exact⟨hr.wQ,_,hres,⟨_,rfl⟩,If,hpost⟩
 ·exact⟨hr.wQ,_,hres,⟨_,rfl⟩,If,hpost⟩
theorem zkb (l:List aC):C0 586 [aB (l.map aF)] (.d (.fn (.func 604) [] [.bE [lD (l.map aF)]])):=by
 refine Ct.B func586 ?_;simp;exact aA
attribute [local go_sem] Oper.semAt_some in
set_option maxHeartbeats 1000000 in
theorem Nr (l:List aC)(hl:l.length<=1000000):C0 542 [aB (l.map aF)] (.d (DS l)):=by
 intro σ I w vs hib hlen hv hrm hlow
 match vs,hlen with
 |[v0],_=>
 have hv0:=hv 0 _ v0 rfl rfl;refine(EG (n:=4)).1 ?_;refine callsIn_of_wp_marks (F:=FW none) func542 rfl trivial ?_ rfl
 let E:Ctx:={P:=prog,w0:=w,uJ:=λ_=>False,I0:=I,nt:=16,s0:=σ}
 have hrel:Rel E (X.den ⟨uF 0 [aB (l.map aF)],[],64⟩) {tmps:=#[v0]++Array.replicate (Tryz.f542.ntmps-(#[v0]:Array Value).size) undef,defers:=[]} w:=by
  refine⟨σ,I,?_,rfl,λt=>?_,⟨λb k hb=>by simp[X.den,cK]at hb,λb b' k k' x x' n hb=>by simp[X.den,cK]at hb⟩,λb hb=>hlow b hb,hib,λ_ h=>h,λn h=>.inl h,λn h=>?_,rfl,rfl,⟨rfl,bY _⟩,bY _,λ_ _ _=>rfl,λ_ _ h=>h,hlow⟩
  ·simp[E,ntmps542]
  ·simp only[X.den,QH,y8,fK,MQ]
   match t with
   |0=>simpa using hv0
   |t+1=>exact .any _
  ·obtain⟨b,k,x,hb,_⟩:=h;simp[X.den,cK]at hb
 generalize({tmps:=#[v0]++Array.replicate (Tryz.f542.ntmps-(#[v0]:Array Value).size) undef,defers:=[]}:Act)=a0 at hrel⊢;refine T7 (E:=E) (nt:=16) (tm:=[(0,aB (l.map aF))]) (m:=[]) (nx:=64) (gv:=[]) mixed rfl rfl ?_ hrel (λa1 w1 hr1=>?_)
 ·refine CI.n ?_;simp;constructor<;>simp
 refine T7 (E:=E) (nt:=16) (tm:=[(0,aB (l.map aF)),(3,.ptr 64 0)]) (m:=[(64,.cells [.own 65] 635),(65,.map true [.int,.str] true (tC []))]) (nx:=66) (gv:=[]) mixed rfl rfl ?_ hr1 (λa2 w2 hr2=>?_)
 ·refine CI.n ?_;simp;constructor<;>simp[Ml]
 refine wpIn_seq ?_;refine T7 (E:=E) (nt:=16) (tm:=[(0,aB (l.map aF)),(3,.ptr 64 0),(8,.d (.fn (.func 604) [] [.bE [lD (l.map aF)]]))]) (m:=[(64,.cells [.own 65] 635),(65,.map true [.int,.str] true (tC []))]) (nx:=66) (gv:=[]) mixed rfl rfl ?_ hr2 (λa3 w3 hr3=>?_)
 ·refine CI.n ?_;simp;refine CI.p (zkb l) ?_;simp;constructor<;>simp
 refine wpIn_block ?_;obtain⟨σ3,I3,h3⟩:=hr3;have hmm:RM σ3 I3 w3 (bB [(64,.cells [.own 65] 635),(65,.map true [.int,.str] true (tC []))]):=by rw[<-FB];exact h3.mm
 obtain⟨xH,hxH,hbH,hnH⟩:=hmm.blk 64 _ rfl;obtain⟨xM,hxM,hbM,hnM⟩:=hmm.blk 65 _ rfl;have hown:∀n,eZ σ3 (bB [(64,.cells [.own 65] 635),(65,.map true [.int,.str] true (tC []))]) n->w.heap.size<=n:=λn hn=>by
  rcases h3.mine n (by show eZ σ3 (cK _) n;rw[FB];exact hn)with g|g
  ·exact g.elim
  ·exact g
 obtain⟨H,rfl⟩:∃H,xH=.pointer (some ⟨H,0,none⟩):=by cases hbH;exact⟨_,rfl⟩
 obtain⟨M,rfl⟩:∃M,xM=.map (some M):=by cases hbM;exact⟨_,rfl⟩
 have hHM:H≠M:=λe=>by
  have:=hmm.apart 64 65 _ _ _ _ H rfl rfl hxH hxM rfl (by rw[e];rfl);omega
 have hHw:w.heap.size<=H:=hown H ⟨64,_,_,rfl,hxH,rfl⟩;have hMw:w.heap.size<=M:=hown M ⟨65,_,_,rfl,hxM,rfl⟩;have hT:a3.tmps.size=16:=h3.size;have hT3:a3.tmps[3]? =some (.pointer (some ⟨H,0,none⟩)):=by
  have h:=h3.tm 3;simp only[X.den,cI]at h;have e:a3.tmps[3]? =some (a3.tmps.getD 3 undef):=by simp[hT]
  rw[e];generalize a3.tmps.getD 3 undef=z at h;cases h with
  | @ptr b off n h=>rw[hxH]at h;cases h;rfl
 obtain⟨v,hT8,hv8⟩:∃v,a3.eval (.tmp 8)=.func (.func 604) #[] #[v]/\RD I3 w3 (.bE [lD (l.map aF)]) v:=by
  have h:=h3.tm 8;simp only[X.den,cI]at h;show∃v,a3.tmps.getD 8 undef=_/\_;generalize a3.tmps.getD 8 undef=z at h;cases h with
  |d h=>cases h with
   | @fn f first captured xs ys hx hy h1 h2=>
     have e1:xs=[]:=kH (by simpa using hx)
     match ys,hy with
     |[y],_=>subst e1;exact⟨y,rfl,h2 0 _ y rfl rfl⟩
 refine Fx (F:=FW none) rfl (by omega) hT8 trivial (enters_of func604 (by kernel_rfl) rfl) ?_;rintro fn hfn r hr;obtain⟨W,hW⟩:∃W,(w3.alloc (.deferred (some []))).alloc (.loop r)=W:=⟨_,rfl⟩;rw[hW];have hL:W.heap[w3.heap.size+1]? =some (.loop r):=by
  rw[<-hW];have:=World.alloc_heap_new (w3.alloc (.deferred (some []))) (.loop r);rwa[F9]at this
 have hD:W.heap[w3.heap.size]? =some (.deferred (some [])):=by
  rw[<-hW];exact(Below.heap_alloc _ _ _ (by simp)).trans (World.alloc_heap_new w3 _)
 have hold:∀n,n<w3.heap.size->W.heap[n]? =w3.heap[n]? :=λn hn=>by
  rw[<-hW];exact(Below.heap_alloc _ _ n (by simp;omega)).trans (Below.heap_alloc _ _ n hn)
 have hsz:W.heap.size=w3.heap.size+2:=by rw[<-hW];simp
 have hos:W.os=w3.os:=by rw[<-hW];rfl
 have htape:W.tape=w3.tape:=by rw[<-hW];rfl
 have hout:sI W w3:=by rw[<-hW];exact⟨rfl,bY _⟩
 have hib3:∀n,I3 n->n<W.heap.size:=λn hn=>by have:=h3.ib n hn;omega
 have hIL:¬I3 (w3.heap.size+1):=λh=>by have:=h3.ib _ h;omega
 have hrmW:RM (vI H M) I3 W (bB (nU [])):=by
  refine⟨λb k hb=>?_,λb b' k k' x x' n h1 h2 q1 q2 q3 q4=>?_⟩
  ·simp only[bB]at hb;split at hb
   ·rename_i e;cases hb;subst e;refine⟨_,rfl,?_,λn hn=>⟨by have:=(hnH n hn).1;omega,(hnH n hn).2⟩⟩;cases hbH with
    | @cells cs T n arr c1 c2 c3=>
      refine .cells ((hold H (hnH H rfl).1).trans c1) (by simpa using c2) (λi c x d1 d2=>?_)
      match i with
      |0=>
       simp at d1;subst d1;have:=c3 0 _ x rfl d2;cases this with
       |own e1 e2=>rw[hxM]at e1;cases e1;exact .own rfl rfl
      |i+1=>simp at d1
   ·split at hb
    ·rename_i e;cases hb;subst e;refine⟨_,rfl,?_,λn hn=>⟨by have:=(hnM n hn).1;omega,(hnM n hn).2⟩⟩;cases hbM with
     |map keys vals c1 c2 c3 c4 c5 c6=>exact .map keys vals ((hold M (hnM M rfl).1).trans c1) c2 c3 c4 c5 (λi d j c x d1 d2 d3 d4=>(c6 i d j c x d1 d2 d3 d4).mono (λn hn=>hold n (h3.ib n hn)) (λ_ h=>h))
    ·cases hb
  ·have two:∀b k,bB (nU []) b=some k->b=0\/b=1:=λb k h=>by
    simp only[bB]at h;split at h
    ·exact .inl (by omega)
    ·split at h
     ·exact .inr (by omega)
     ·cases h
   rcases two b k h1 with rfl|rfl<;>rcases two b' k' h2 with rfl|rfl
   ·rfl
   ·cases q1;cases q2;cases q3;cases q4;exact absurd rfl hHM
   ·cases q1;cases q2;cases q3;cases q4;exact absurd rfl hHM
   ·rfl
 have hvW:RD I3 W (.bE [lD (l.map aF)]) v:=hv8.mono (λn hn=>hold n (h3.ib n hn)) (λ_ h=>h);refine(zkd l hl (w3.heap.size+1) _ r a3.tmps hT hT3 (ca:=r.assign) (cb:=r.body) (by rw[hr];simp only[Tryz.f542,JJ,C7]) (by rw[hr];simp only[Tryz.f542,JJ,C6]) (by rw[hr]) (by rw[hr]) (by rw[hr]) rfl rfl (by rw[hr]) hib3 hrmW hvW hL hIL).mono ?_;rintro e W' ⟨hu,I',hp⟩;have hnot:∀n,w3.heap.size<=n->¬eZ (vI H M) (bB (nU [])) n:=λn hn ho=>by
  obtain⟨b,k,x,g1,g2,g3⟩:=ho;obtain⟨x',p1,p2,p3⟩:=hrmW.blk b k g1;rw[g2]at p1;cases p1;have h0:b=0\/b=1:=by
   simp only[bB]at g1;split at g1
   ·exact .inl (by omega)
   ·split at g1
    ·exact .inr (by omega)
    ·cases g1
  rcases h0 with rfl|rfl
  ·cases g2;simp[hb]at g3;subst g3;have:=(hnH H rfl).1;omega
  ·cases g2;simp[hb]at g3;subst g3;have:=(hnM M rfl).1;omega
 have hL':W'.heap[w3.heap.size+1]? =some (.loop r):=(hp.frame _ (by omega) (hnot _ (by omega))).trans hL;have hD':W'.heap[w3.heap.size]? =some (.deferred (some [])):=(hp.frame _ (by omega) (hnot _ (by omega))).trans hD;refine⟨hu,r,hL',by rw[hr];simp,?_⟩;rw[show r.pending=none by rw[hr]];obtain⟨xH',hxH',hbH',hnH'⟩:=hp.mem.blk 0 _ rfl;obtain⟨xM',hxM',hbM',hnM'⟩:=hp.mem.blk 1 _ rfl;cases hxH';cases hxM';have hMne:∀n,n=H\/n=M->n≠w3.heap.size/\n≠w3.heap.size+1:=λn hn=>by
  have:=(hnH H rfl).1;have:=(hnM M rfl).1;rcases hn with rfl|rfl<;>omega
 have hcH:W'.heap[H]? =some (.cells #[.map (some M)] 635 (0,0)):=by
  cases hbH' with
  | @cells cs T n arr c1 c2 c3=>
    have h1:arr.size=1:=by simpa using c2
    have h2:arr[0]? =some (.map (some M)):=by
     have e0:arr[0]? =some arr[0]:=by simp[h1]
     have:=c3 0 _ arr[0] rfl e0;rw[e0];generalize arr[0]=z at this;cases this with
     |own e1 e2=>cases e1;rfl
    have h3:arr=#[.map (some M)]:=by
     apply Array.ext
     ·simp[h1]
     ·intro i hi hi';have:i=0:=by omega
      subst this;have:=(qZ.1 h2).2;simpa using this
    rw[c1,h3]
 have hw3s:w.heap.size<=w3.heap.size:=h3.hs;have hW's:W.heap.size<=W'.heap.size:=hp.size;obtain⟨W3,hW3⟩:∃W3,W'.putObj (w3.heap.size+1) (.loop {r with state:=.exhausted,pending:=none})=W3:=⟨_,rfl⟩;have hc3:W3.cell? ⟨H,0,none⟩=some (.map (some M)):=by
  rw[<-hW3];exact(World.cell?_of_block (World.putObj_heap_other (hMne H (.inl rfl)).2)).trans (by simp[World.cell?,hcH])
 have hD3:W3.heap[w3.heap.size]? =some (.deferred (some [])):=by rw[<-hW3];exact(World.putObj_heap_other (by omega)).trans hD'
 obtain⟨Wf,hWf⟩:∃Wf,W3.putObj w3.heap.size (.deferred none)=Wf:=⟨_,rfl⟩;have hfo:∀n,n≠w3.heap.size->n≠w3.heap.size+1->Wf.heap[n]? =W'.heap[n]? :=λn h1 h2=>by
  rw[<-hWf,<-hW3];exact(World.putObj_heap_other h1).trans (World.putObj_heap_other h2)
 have hfs:Wf.heap.size=W'.heap.size:=by rw[<-hWf,<-hW3];simp[World.putObj]
 have hfin:∃σ' I'',eG σ I w (bB ([]++[])) 64 σ' I'' Wf (bB ([]++[]))/\RV σ' I'' Wf (.d (DS l)) (.map (some M)):=by
  have hI'D:∀n,I' n->n≠w3.heap.size/\n≠w3.heap.size+1:=λn hn=>by
   rcases hp.kQ n hn with g|g|g
   ·have:=h3.ib n g;omega
   ·omega
   ·constructor
    ·intro e;subst e;exact hnot _ (bY _) g
    ·intro e;subst e;exact hnot _ (by omega) g
  refine⟨σ,λn=>I' n\/n=M,?_,?_⟩
  ·refine⟨?_,?_,?_,by omega,λ_ _ h=>h,λb h1 h2=>absurd h1 h2,λn h=>.inl (hp.vH n (h3.i0 n h)),λn h=>?_,λn h=>?_,λn h1 h2=>?_,⟨λb k hb=>by simp[bB]at hb,λb b' k k' x x' n hb=>by simp[bB]at hb⟩,λb k hb=>by simp[bB]at hb,λn hn=>?_⟩
   ·have:Wf.os=W'.os:=by rw[<-hWf,<-hW3];rfl
    rw[this,hp.os,hos,h3.os]
   ·have:Wf.tape=W'.tape:=by rw[<-hWf,<-hW3];rfl
    rw[this,hp.tape,htape,h3.tape]
   ·have:sI Wf W':=by rw[<-hWf,<-hW3];exact⟨rfl,bY _⟩
    exact this.trans (hp.output.trans (hout.trans h3.output))
   ·rw[hfs];rcases h with h|rfl
    ·exact hp.ib n h
    ·exact(hnM' _ rfl).1
   ·rcases h with h|rfl
    ·rcases hp.kQ n h with g|g|g
     ·rcases h3.kQ n g with q|q|q
      ·exact .inl q
      ·exact q.elim
      ·exact .inr (.inl q)
     ·exact .inr (.inl (by omega))
     ·obtain⟨b,k,x,g1,g2,g3⟩:=g;have h0:b=0\/b=1:=by
       simp only[bB]at g1;split at g1
       ·exact .inl (by omega)
       ·split at g1
        ·exact .inr (by omega)
        ·cases g1
      rcases h0 with rfl|rfl
      ·cases g2;simp[hb]at g3;subst g3;exact .inr (.inl hHw)
      ·cases g2;simp[hb]at g3;subst g3;exact .inr (.inl hMw)
    ·exact .inr (.inl hMw)
   ·rw[hfo n (by omega) (by omega),hp.frame n (by omega) (λho=>?_),hold n (by omega)]
    ·exact h3.frame n h1 (λh=>h.elim)
    ·obtain⟨b,k,x,g1,g2,g3⟩:=ho;have h0:b=0\/b=1:=by
      simp only[bB]at g1;split at g1
      ·exact .inl (by omega)
      ·split at g1
       ·exact .inr (by omega)
       ·cases g1
     rcases h0 with rfl|rfl
     ·cases g2;simp[hb]at g3;subst g3;omega
     ·cases g2;simp[hb]at g3;subst g3;omega
   ·obtain⟨b,k,x,hb,_⟩:=hn;simp[bB]at hb
  ·cases hbM' with
   |map keys vals c1 c2 c3 c4 c5 c6=>
    refine .d (.mp keys vals (.inr rfl) ((hfo M (hMne M (.inr rfl)).1 (hMne M (.inr rfl)).2).trans c1) c3 c4 c5 (λi d j c x d1 d2 d3 d4=>(c6 i d j c x d1 d2 d3 d4).mono (λn hn=>hfo n (hI'D n hn).1 (hI'D n hn).2) (λn hn=>.inl hn)))
 obtain⟨σ',I'',hf1,hf2⟩:=hfin;have hg3:a3.tmps.getD 3 undef=.pointer (some ⟨H,0,none⟩):=by simp[hT3]
 have hdf:a3.defers=[]:=h3.wQ;have hrun:=run_takeDeferred (P:=prog) hD3;rw[hWf]at hrun;rw[hW3];clear hW3 hWf hfo hfs hcH hbH' hbM' hnH' hnM' hp hL' hD' hnot hvW hrmW hIL hib3 hout htape hos hsz hold hD hL hW hr hv8 hrel h3 hmm hown hbH hbM;generalize W3=W3 at hc3 hD3 hrun⊢;have hTL:a3.tmps.toList.length=16:=by simpa using hT
 have hFW:FW none=Fence.wide:=rfl;rw[hFW];show Code.wpIn Fence.wide 4 prog _ _ _ _
 match hm:a3.tmps.toList,hTL with
 |[t0,t1,t2,t3,t4,t5,t6,t7,t8,t9,t10,t11,t12,t13,t14,t15],_=>
 have hTe:a3.tmps=#[t0,t1,t2,t3,t4,t5,t6,t7,t8,t9,t10,t11,t12,t13,t14,t15]:=by rw[<-Array.toArray_toList (xs:=a3.tmps),hm]
 rw[hTe]at hT3⊢;have h3e:t3=.pointer (some ⟨H,0,none⟩):=by simpa using hT3
 subst h3e;clear hT3 hm hTL hTe
 gi_wp2
 rw[hdf];refine⟨by simp,.inl ⟨_,_,rfl,hrun,?_⟩⟩;exact⟨.map (some M),by simp[results,Tryz.f542,go_sem],_,σ',I'',rfl,hf1,hf2⟩
end Go.Proofs.YtobcmagefgdgdaaGreatDoor
end
namespace Go.Proofs.YtobcmagefgdgdaaGreatDoor
open Go.AI Go.G Tryz
attribute [simp] ntmps543 results543 ntmps545 results545 ntmps483 results483
theorem ziF (a:List aC)(r:aC)(ha:cL a):C0 543 [st (aF r),.d (.bE [DS a])] (bool (!decide (bI a r.key=some r))):=by
 refine Ct.B func543 ?_;simp;cases hg:bI a r.key with
 |none=>
  have e1:=Mk hg;refine CI.p (oK r) ?_ (ha:=by simp[e1]);simp[e1];refine dr ?_;exact aA
 |some o=>
  have e1:=XP hg;have ho:y2 o:=ha.all o (BU hg);refine CI.p (oK r) ?_ (ha:=by simp[e1]);simp[e1];refine dr ?_;refine CI.p (VO o r ho) ?_;simp;exact aA
theorem ziE (b:List aC)(k_:Key):C0 545 [st (aQ k_),.d (.bE [DS b])] (bool (bI b k_).isSome):=by
 refine Ct.B func545 ?_;simp;cases hg:bI b k_ with
 |none=>
  have e1:=Mk hg;simp[e1];exact aA
 |some o=>
  have e1:=XP hg;simp[e1];exact aA
theorem ziD (a b:List aC)(ha:cL a)(hl:a.length<=1000000)(hb:b.length<=1000000):C0 483 [aB (a.map aF),aB (b.map aF)] (.aU [aB ((iN a b).map aF),aB ((kA a b).map aQ)]):=by
 refine Ct.BS func483 mixed 2 400 ?_;simp;refine CI.pS (Nr a hl) call542 2 ?_;simp;refine CI.pS (Nr b hb) call542 2 ?_;simp;refine CI.s (tm:=[(0,aB (a.map aF)),(1,aB (b.map aF)),(6,.d (.bE [DS a])),(7,.d (.bE [DS b]))]) (mm:=[]) (nx:=65) [] [448,512] (by constructor<;>simp) ?_;refine CI.n ?_;simp;refine CI.p (Y4 b (.fn (.func 543) [] [.bE [DS a]]) (λr=>!decide (bI a r.key=some r)) (λr hr=>bN.nZ (by exact ziF a r ha) call543 rfl rfl) hb) ?_;simp;refine CI.cc [] (QU a hl) ?_;simp;refine CI.cc [385] (RU (a.map aC.key) (.fn (.func 545) [] [.bE [DS b]]) (λk=>(bI b k).isSome) (λk hk=>bN.nZ (by exact ziE b k) call545 rfl rfl) (by simpa using hl)) ?_;simp;exact aA (by simp[iN,kA])
end Go.Proofs.YtobcmagefgdgdaaGreatDoor
namespace Go.G
open Go.AI
theorem RS (a b:List aC):(iN a b).length<=b.length:=gJ _ _
theorem RR (a b:List aC):(kA a b).length<=a.length:=by
 have:=gJ (λk=>!(bI b k).isSome) (a.map aC.key);simpa[kA]using this
end Go.G
namespace Go.Proofs.YtobcmagefgdgdaaGreatDoor
open Go.AI Go.G Tryz

end Go.Proofs.YtobcmagefgdgdaaGreatDoor
