/- LAYERS 18 to 22, THE REFERENCE, walked -/
import Derived.Test.YtobcmagefgdgdaaGreatDoorRa
import Derived.Test.YtobcmagefgdgdaaGreatDoorWla
set_option linter.unusedSimpArgs false
set_option linter.unusedVariables false
set_option maxRecDepth 100000
set_option maxHeartbeats 8000000
namespace Go.G
open Go.AI
theorem PH (l:List dB)(id:Int)(h:∀x∈l,¬x.id=id):∀k,qG l id k= -1
 |0=>rfl
 |k+1=>by
  unfold qG;cases e:l[k]? with
  |none=>exact PH l id h k
  |some x=>simp only;rw[aT (h x (gT e))];exact PH l id h k
theorem zfU (l:List Key)(k:Key):(iW l k).length<=l.length+1:=O8 k false l
theorem Mt :∀(m o:List Key),(m.foldl iW o).length<=o.length+m.length
 |[],o=>by simp
 |k::m,o=>by
  have h1:=Mt m (iW o k);have h2:=zfU o k;rw[pH,jI];omega
end Go.G
namespace Go.Proofs.YtobcmagefgdgdaaGreatDoor
open Go.AI Go.G Tryz
attribute [simp] ntmps280 results280 ntmps372 results372 ntmps459 results459 ntmps374 results374
theorem zcH (l:List Key)(k_:Key)(hl:l.length<=1000000)(hk:(bs k_.name).length<=9223372036854775807):C0 280 [aB (l.map aQ),st (aQ k_)] (aB ((iW l k_).map aQ)):=by
 refine Ct.B func280 ?_;simp;refine aH.gH 5 2 184 rfl ?_;refine aH.inv mixed rfl (ι:={p:Nat×Bool×List Key//p.1<=l.length/\p.2.2++nQ k_ p.2.1 (l.drop p.1)=iW l k_/\p.2.2.length<=2*p.1}) (λk=>[(0,aB (l.map aQ)),(3,.ptr 64 0),(5,.own 65),(6,bool k.1.2.1),(7,int k.1.1)]) (λk=>[(64,.cells ((aQ k_).map .d) 184),(65,.grow 2 (k.1.2.2.map aQ) 184)]) 66 (λk=>l.length-k.1.1) ⟨(0,false,[]),by omega,by simp[iW],by simp⟩ [] (by constructor<;>simp) ?_;rintro⟨⟨i,done,out⟩,hi1,hi2,hi3⟩ B hB;simp only at hi1 hi2 hi3;refine CI.n ?_;simp;refine bQ (λh=>?_) (λh=>?_)
 ·have hk':i<l.length:=by simpa using h
  have hr:l[i]? =some l[i]:=bO hk';have hd:l.drop i=l[i]::l.drop (i+1):=tP hk';have hw:IntKind.wrap .i64 ((i:Int)+1)=i+1:=wz _;generalize l[i]=x at hr hd;rw[hd,nQ]at hi2;simp only[h];simp[hr,hw];refine CI.p (R3 x k_ (.inr hk)) ?_;simp;refine dr ?_;refine cV (λh1 zz=>?_) (λh1 zz=>?_)<;>simp only[zz]<;>simp
  ·cases done with
   |false=>
    simp;refine⟨by omega,?_⟩;refine aX (λh2 zz=>?_) (λh2 zz=>?_)<;>simp only[zz]<;>simp[hr]
    ·refine⟨by omega,?_⟩;simp only[h1,h2,fK,AQ,iO]at hi2;refine hB _ ⟨(i+1,true,out++[k_]++[x]),by omega,by simpa using hi2,by simp;omega⟩ [] ?_ (by simp;omega);constructor<;>simp[hw]
    ·simp only[h1,h2,fK,AQ]at hi2;refine hB _ ⟨(i+1,true,out++[k_]),by omega,by simpa using hi2,by simp;omega⟩ [] ?_ (by simp;omega);constructor<;>simp[hw]
   |true=>
    simp;refine aX (λh2 zz=>?_) (λh2 zz=>?_)<;>simp only[zz]<;>simp[hr]
    ·refine⟨by omega,?_⟩;simp only[h1,h2,iO]at hi2;refine hB _ ⟨(i+1,true,out++[x]),by omega,by simpa using hi2,by simp;omega⟩ [] ?_ (by simp;omega);constructor<;>simp[hw]
    ·simp only[h1,h2]at hi2;refine hB _ ⟨(i+1,true,out),by omega,by simpa using hi2,by simp;omega⟩ [] ?_ (by simp;omega);constructor<;>simp[hw]
  ·have h2:¬cT x k_=0:=by omega
   simp[h2,hr];refine⟨by omega,?_⟩;simp only[h1,h2,iO,false_and]at hi2;refine hB _ ⟨(i+1,done,out++[x]),by omega,by simpa using hi2,by simp;omega⟩ [] ?_ (by simp;omega);constructor<;>simp[hw]
 ·have hil:i=l.length:=by simp at h;omega
  rw[hil,yC,nQ]at hi2;simp only[h];cases done with
  |false=>
   simp;refine⟨by omega,?_⟩;exact aA (by simp[<-hi2])
  |true=>
   simp;exact aA (by simp[<-hi2])
theorem zdp (p:cM)(hl:p.aR.length<=1000000):C0 372 [st (fY p)] (.aU [st (fY (rD p).1),int (rD p).2.1,int (rD p).2.2]):=by
 refine Ct.B func372 ?_;simp;refine CI.p (GR p hl) ?_;simp;have hs:=v8 p;have hh:rD p=u6 (eY p):=rfl;rw[hh];clear hh;have hp:=xB p;generalize eY p=q at hs hp⊢;rcases QO q.aR with e|⟨i,s,e⟩
 ·simp[e];exact aA (by simp[u6,e])
 ·have e0:¬q.aR=[]:=by rw[e];simp
  have e1:IntKind.wrap .i64 ((q.aR.length:Int)-1)=(i.length:Int):=by rw[wz _,e];simp
  have e3:i.length<q.aR.length:=by rw[e];simp
  have e4:q.aR[i.length]? =some s:=by simp[e]
  have e5:q.aR.getLast? =some s:=by simp[e]
  have b1:=EV (pJ.1 hp).1 s (gT e4);have b2:=OG (pJ.1 hp).1 s (gT e4);have e7:q.aR[i.length]=s:=(cE.1 e4).2;simp[e0,e1,e3,e4,e7];by_cases h1:s.pins=10000
  ·simp[h1];have e6:u6 q=(q,0,14):=by unfold u6;rw[e5];simp only;rw[aZ h1]
   rw[e6];exact aA
  ·have e6:=zdo e5 h1;rw[show q.aR.length-1=i.length by rw[e];simp]at e6;rw[e6];have wp:=wz (s.pins+1);simp[h1,wp,e1];refine CI.p (Bb q i.length {s with pins:=s.pins+1} e3 (by omega)) ?_;simp;refine dr ?_;exact aA
theorem zcg (p:cM)(id:Int)(hl:p.aR.length<=1000000):C0 459 [st (fY p),int id] (.aU [st (fY (tV p id).1),int (tV p id).2]):=by
 refine Ct.B func459 ?_;simp;refine CI.p (GR p hl) ?_;simp;have hs:=v8 p;have hh:tV p id=qD (eY p) id:=rfl;rw[hh];clear hh;have hp:=xB p;generalize eY p=q at hs hp⊢;refine aH.inv mixed rfl (ι:={k:Nat//k<=(q.aR).length/\(q.aR.take k).all (λx=>!decide (x.id=id))=true}) (λk=>[(1,int id),(2,.ptr 64 0),(4,.ptr 128 0),(6,int k.1)]) (λk=>[(64,.cells ((fY q).map .d) 128),(128,.cells ((fY ⟨0,[]⟩).map .d) 128)]) 1024 (λk=>(q.aR).length-k.1) ⟨0,by omega,by simp⟩ [] (by constructor<;>simp) ?_;rintro⟨k,hk1,hi⟩ B hB;refine CI.n ?_;simp;rcases bC hk1 with⟨x,hk,hx,hr,hm,ht,hd,hw,h⟩|rfl
 ·simp[h,hr,hw];by_cases h1:x.id=id
  ·have pl:kX q id=k:=by rw[<-h1];exact Hv hp hr
   have b1:=EV (pJ.1 hp).1 x hm;have b2:=OG (pJ.1 hp).1 x hm;by_cases h2:x.pins=0
   ·have e:qD q id=(q,15):=by unfold qD;rw[pl,aT (by omega),M1,hr];simp only;rw[aZ h2]
    rw[e];simp[h1,h2];exact aA
   ·have e:=zcf hr pl h2 b2;rw[e];have wp:=wz (x.pins-1);simp[h1,h2,wp];refine CI.p (Bb q k {x with pins:=x.pins-1} hk (by omega)) ?_ (ha:=by simp[h1]);simp[h1];exact aA
  ·simp[h1];refine hB _ ⟨k+1,by omega,by simp[ht,hi,h1]⟩ [] ?_ (by simp;omega);constructor<;>simp[hw,ht,h1]
 ·simp;rw[bX]at hi;have pl:kX q id= -1:=PH _ _ (λx hx=>by have:=dP.1 hi x hx;simpa using this) _;have e:qD q id=(q,10):=by unfold qD;rw[pl,aZ (by omega)]
  rw[e];exact aA
theorem zhp (p:cM)(id:Int)(hl:p.aR.length<=1000000):C0 374 [st (fY p),int id] (.aU [aB (((yV p id).getD []).map aF),bool (yV p id).isSome]):=by
 refine Ct.B func374 ?_;simp;refine CI.p (GR p hl) ?_;simp;have hs:=v8 p;have hh:yV p id=BV (eY p) id:=rfl;rw[hh];clear hh;have hp:=xB p;generalize eY p=q at hs hp⊢;refine aH.inv mixed rfl (ι:={k:Nat//k<=(q.aR).length/\(q.aR.take k).all (λx=>!decide (x.id=id))=true}) (λk=>[(2,.ptr 64 0),(1,int id),(6,int k.1)]) (λk=>[(64,.cells ((fY q).map .d) 128)]) 1024 (λk=>(q.aR).length-k.1) ⟨0,by omega,by simp⟩ [] (by constructor<;>simp) ?_;rintro⟨k,hk1,hi⟩ B hB;refine CI.n ?_;simp;rcases bC hk1 with⟨x,hk,hx,hr,hm,ht,hd,hw,h⟩|rfl
 ·simp[h,hr,hw];by_cases h1:x.id=id
  ·have pl:kX q id=k:=by rw[<-h1];exact Hv hp hr
   have e:BV q id=some x.l:=by unfold BV;rw[pl,aT (by omega),M1,hr];rfl
   rw[e];simp[h1,hr,hk,hx,h];exact aA
  ·simp[h1];refine hB _ ⟨k+1,by omega,by simp[ht,hi,h1]⟩ [] ?_ (by simp;omega);constructor<;>simp[hw,ht,h1]
 ·simp;rw[bX]at hi;have pl:kX q id= -1:=PH _ _ (λx hx=>by have:=dP.1 hi x hx;simpa using this) _;have e:BV q id=none:=by unfold BV;rw[pl,aZ (by omega)]
  rw[e];exact aA
end Go.Proofs.YtobcmagefgdgdaaGreatDoor
namespace Go.G
open Go.AI
def KH (l:List dB)(m:List aC):List Key:=(((l.flatMap (·.l))++m).map aC.key).foldl iW []
theorem Tk :KH [] []=[]:=rfl
theorem zly (l:List dB)(m:List aC)(r:aC):KH l (m++[r])=iW (KH l m) r.key:=by simp[KH,qY]
theorem zlz (l:List dB)(x:dB):KH (l++[x]) []=KH l x.l:=by simp[KH]
theorem Dm :∀(l:List dB),(∀q∈l,q.l.length<=64)->(l.flatMap (·.l)).length<=64*l.length
 |[],_=>by simp
 |x::l,h=>by
  have h1:=Dm l (λq hq=>h q (JO _ hq));have h2:=h x JN;simp only[TP,bZ,jI]at h1⊢;omega
theorem zlA (l:List dB)(m:List aC)(h:∀q∈l,q.l.length<=64):(KH l m).length<=64*l.length+m.length:=by
 have a:=Mt (((l.flatMap (·.l))++m).map aC.key) [];have b:=Dm l h;unfold KH;simp only[zD,bZ,gZ]at a⊢;omega
end Go.G
namespace Go.Proofs.YtobcmagefgdgdaaGreatDoor
open Go.AI Go.G Tryz
attribute [simp] ntmps211 results211 ntmps203 results203 ntmps89 results89 ntmps88 results88
theorem Qj (p:cM)(hl:p.aR.length<=1000000):C0 211 [st (fY p)] (Ql (wR p)):=by
 refine Ct.B func211 ?_;simp;refine CI.p (GR p hl) ?_;simp;have hs:=v8 p;have hh:wR p=(eY p).aR.getLast? :=rfl;rw[hh];clear hh;generalize eY p=q at hs⊢;rcases QO q.aR with e|⟨i,s,e⟩
 ·simp[e];exact aA (by simp[e])
 ·have e0:¬q.aR=[]:=by rw[e];simp
  have e1:IntKind.wrap .i64 ((q.aR.length:Int)-1)=(i.length:Int):=by rw[wz _,e];simp
  have e3:i.length<q.aR.length:=by rw[e];simp
  have e4:q.aR[i.length]? =some s:=by simp[e]
  have e5:q.aR.getLast? =some s:=by simp[e]
  have e7:q.aR[i.length]=s:=(cE.1 e4).2;simp[e0,e1,e3,e4,e7];exact aK (by simp[e5])
theorem II (p:cM)(hp:mD p):C0 203 [st (fY p)] (aB ((gI p).map aQ)):=by
 refine Ct.B func203 ?_;simp;refine CI.p (GR p hp.sl) ?_;simp;have hs:=v8 p;have hq:=hp.sound.aR;have hh:gI p=KH (eY p).aR []:=by unfold gI LC KH;simp
 rw[hh];clear hh;generalize eY p=q at hs hq⊢;refine aH.V (q.aR) (λk=>[(1,.ptr 64 0),(3,aB ((KH (q.aR.take k.1) []).map aQ)),(4,int k.1)]) (λk=>[(64,.cells ((fY q).map .d) 128)]) 1024 (λk hk1 B hB=>?_) (h0:=by constructor<;>simp[Tk]);simp[Tk];rcases bC hk1 with⟨x,hk,hx,hr,hm,ht,hd,hw,h⟩|rfl
 ·simp[h,hr,hw];have hx2:=hq x hm;have b1:(q.aR.take k).length<=1000:=by simp;omega
  have b2:∀y∈q.aR.take k,y.l.length<=64:=λy hy=>(hq y (pY hy)).2;refine aH.V (x.l) (λkj=>[(1,.ptr 64 0),(3,aB ((KH (q.aR.take k) (x.l.take kj.1)).map aQ)),(4,int k),(5,int kj.1)]) (λkj=>[(64,.cells ((fY q).map .d) 128)]) 2048 (λkj hk1j Bj hBj=>?_) (h0:=by constructor<;>simp[hr,hk,hx,h]);simp[hr,hk,hx,h];rcases bC hk1j with⟨r,hkj,hxj,hrj,hmj,htj,hdj,hwj,hj⟩|rfl
  ·simp[hj,hrj,hwj,hr,hk,hx,h];have lk:=zlA (q.aR.take k) (x.l.take kj) b2;have lj:(x.l.take kj).length<=64:=by simp;omega
   have nm:=(hx2.1.all r hmj).name;refine CI.p (qL r) ?_ (ha:=by simp[hrj]);simp[hrj];refine CI.p (zcH (KH (q.aR.take k) (x.l.take kj)) r.key (by omega) nm) ?_;simp;exact hBj hkj (by constructor<;>simp[hwj,htj,zly])
  ·simp;exact hB hk (by constructor<;>simp[hw,ht,zlz])
 ·simp;exact aA
theorem zbm (a:cM)(ha:mD a):C0 89 [st (fY a),st (fY a)] (bool true):=by
 refine Ct.B func89 ?_;simp;have hs:=ha.sl;refine aH.V (a.aR) (λk=>[(2,.ptr 64 0),(3,.ptr 128 0),(5,int k.1)]) (λk=>[(64,.cells ((fY a).map .d) 128),(128,.cells ((fY a).map .d) 128)]) 1536 (λk hk1 B hB=>?_);simp;rcases bC hk1 with⟨x,hk,hx,hr,hm,ht,hd,hw,h⟩|rfl
 ·simp[h,hr,hw];refine CI.p (D3 x.l x.l (ha.aR x hm).1) ?_;simp;exact hB hk (by constructor<;>simp[hw,ht])
 ·simp;exact aA
theorem zbn (a:kS)(h1:cL a.c.l)(h2:cL a.shown):C0 88 [st (sQ a),st (sQ a)] (bool true):=by
 refine Ct.B func88 ?_;simp;refine CI.p (zbo a.c h1) ?_;simp;refine CI.p (D3 a.shown a.shown h2) ?_;simp;exact aA
end Go.Proofs.YtobcmagefgdgdaaGreatDoor
namespace Go.G
open Go.AI
theorem zb5 {p:cM}(h:jR p=true)(hn:kG p):wG p=decide ((gI p).length<=64):=by
 rw[tQ,KN];simp only[dA];refine⟨λh=>h.1,λhl=>⟨hl,λk hk=>?_⟩⟩;obtain⟨s,hs,r,hr,rfl⟩:=(zfB h).1 hk;have:=xC (hn s hs r hr);unfold eN;exact Bool.and_eq_true_iff.2 ⟨this.1,this.2.1⟩
theorem zjQ {i:Nonce.Nn}(h:Nonce.kV i=true):Nonce.bnd i.m=i.m:=by
 obtain⟨a,b,c,d,m⟩:=i;rw[Nonce.wE]at h;simp only[Nonce.bnd];omega
theorem M9 {n:Int}(h:gL n=false):¬n<0/\¬15<n:=by
 unfold gL at h;have:=lI.1 (by simpa using h:bG n 15=true);omega
end Go.G
namespace Go.Proofs.YtobcmagefgdgdaaGreatDoor
open Go.AI Go.G Tryz
attribute [simp] ntmps72 results72 ntmps275 results275 ntmps198 results198 ntmps200 results200 ntmps136 results136 ntmps130 results130 ntmps287 results287 ntmps373 results373 ntmps140 results140 ntmps50 results50
theorem zeW (l m:Int):C0 72 [int l,int m] (st (dU (r8 l m))):=by
 refine Ct.B func72 ?_;simp;refine CI.p (N6 m) ?_;simp;refine CI.p (zeX l) ?_;simp;exact aK (by simp[r8,tX,r9,Nonce.uS])
theorem VG (s:bS)(ho:dL s)(hs:dI s=true):C0 275 [st (dU s)] (bool true):=by
 refine Ct.B func275 ?_;simp;have X:=rX.1 hs;have e:=lI.1 X.aM;have t:=lI.1 X.turn;have a1:¬s.aM<0:=by omega
 have a2:¬2147483647<s.aM:=by omega
 have a3:¬s.turn<0:=by omega
 have a4:¬2147483647<s.turn:=by omega
 obtain⟨w0,w1,w2,w3⟩:=X.fS;have b0:=M9 w0;have b1:=M9 w1;have b2:=M9 w2;have b3:=M9 w3;simp[a1,a2,a3,a4];refine CI.p (U1 s.iT) ?_ (ha:=by simp[X.iT]);simp[X.iT];refine CI.p (za8 s.w ho.shown) ?_ (ha:=by simp[X.w]);simp[X.w];refine CI.p (Ei s.p ho.sl) ?_ (ha:=by simp[X.p]);simp[X.p];refine aH.rounds 5 ?_;refine cC.s ?_;simp[b0];refine cC.s ?_;simp[b1];refine cC.s ?_;simp[b2];refine cC.s ?_;simp[b3];refine cC.s ?_;simp;have hg:=X.AF;unfold wU at hg;have hm:=X.room;unfold wG at hm;refine CI.p (Qj s.p ho.sl) ?_;simp;refine CI.p (II s.p ho.pins) ?_;simp;refine CI.p (zN ⟨3,0,0,0,0,[],[],0,[],gI s.p⟩ (LK ho.pins ..)) ?_ (ha:=by simp[lS hm]);simp[lS hm];cases hc:wR s.p with
 |none=>
  rw[hc]at hg;have hr:s.w.ready=false:=by simpa using hg
  simp[hr];exact aA
 |some q=>
  rw[hc]at hg;simp only[bL,dA]at hg;have okq:cL q.l:=by rw[hg.2];exact ho.shown
  simp[hg.1];refine CI.p (D3 q.l s.w.shown okq) ?_ (ha:=by simp[hg.2]);simp[hg.2];exact aA
theorem J9 (s:bS)(ho:dL s)(hs:dI s=true):C0 198 [st (dU s)] (st (dU s)):=by
 refine Ct.B func198 ?_;simp;refine CI.p (VG s ho hs) ?_;simp;exact aA
theorem G8 (s:bS)(f:G.Frame)(ho:dL s)(h1:s.turn<2147483647)(h0:0<=s.turn):C0 200 [st (dU s),st (cA f)] (.aU [st (dU (oT s)),aB ([{f with turn:=s.turn+1,held:=gI s.p}].map cA)]):=by
 refine Ct.B func200 ?_;simp;have wt:=wz (s.turn+1);simp[wt];refine CI.p (II s.p ho.pins) ?_;simp;exact aK (by simp[oT])
theorem ziU (s:bS)(ep:Int)(ho:dL s)(hs:dI s=true):C0 136 [st (dU s),int ep] (.aU [st (dU (l5 s ep).1),aB ((l5 s ep).2.1.map cA),int (l5 s ep).2.2]):=by
 refine Ct.B func136 ?_;simp;refine CI.p (J9 s ho hs) ?_;simp;have X:=rX.1 hs;have t:=lI.1 X.turn;have hh:l5 s ep=z8 s ep:=by unfold l5;rw[yF hs]
 rw[hh];unfold z8;by_cases h1:ep<=s.aM
 ·simp[h1];exact aA (by simp[h1])
 by_cases h2:2147483647<ep
 ·simp[h1,h2];exact aA (by simp[h1,h2])
 by_cases h3:s.turn=2147483647
 ·simp[h1,h2,h3];exact aA (by simp[h1,h2,nW,h3])
 have bm:=zjQ X.iT;have cl:=ho.cl;simp[h1,h2,h3];refine CI.p (Mb s.w.c.l (by omega)) ?_;simp;refine CI.p (G8 {s with aM:=ep,up:=true,iT:=⟨0,0,0,0,s.iT.m⟩,fS:=⟨0,0,0,0⟩} ⟨3,ep,0,0,0,[],[],0,[],[]⟩ ⟨ho.c,ho.cl,ho.shown,ho.aR,ho.next,ho.sl⟩ (by simp only;omega) t.1) ?_;simp;refine dr ?_;exact aA (by simp[h1,h2,h3,nW,oT,DT,ZE,Nonce.uS,bm])
theorem zg8 (s:bS)(f:G.Frame)(hd:oB s)(hs:dI s=true)(hf:fJ f):C0 130 [st (dU s),st (cA f)] (.aU [st (dU (qA s f).1),aB ((qA s f).2.1.map cA),int (qA s f).2.2]):=by
 refine Ct.B func130 ?_;simp;have ho:=hd.x;refine CI.p (J9 s ho hs) ?_;simp;have X:=rX.1 hs;have t:=lI.1 X.turn;have hh:qA s f=tS s f:=by unfold qA;rw[yF hs]
 rw[hh];clear hh;obtain⟨V,hV⟩:∃V,tS s f=V:=⟨_,rfl⟩;rw[hV];unfold tS rY at hV;cases h1:s.up with
 |false=>
  rw[h1]at hV;subst hV;simp[h1];exact aA (by simp[h1])
 |true=>
  simp[h1];refine CI.p (zN f hf) ?_;simp;by_cases h2:dD f=0
  rotate_left
  ·rw[h1]at hV;simp only[EJ,iO,h2,MP,fK]at hV;subst hV;simp[h2];refine CI.p (zN f hf) ?_;simp;refine dr ?_;exact aA (by simp[h1])
  simp[h2];by_cases h3:f.aM=s.aM
  rotate_left
  ·rw[h1]at hV;simp only[EJ,iO,h2,EC,h3,MP,fK]at hV;subst hV;simp[h3];exact aA (by simp[h1])
  simp[h3];by_cases h4:f.type=1
  rotate_left
  ·rw[h1]at hV;simp only[EJ,iO,h2,EC,h3,h4,MP,fK]at hV;subst hV;simp[h4];exact aA (by simp[h1])
  rw[h1]at hV;simp only[EJ,iO,h2,EC,h3,h4]at hV;simp[h4];have F:=j9.1 h2;have L:=sV F.small;have hfo:=hf;have wso:p8 s.w=s.w:=by unfold p8;rw[aZ X.w]
  have ows:=hd.x.step (f:=f) hf.aD (by omega);have sws:=Cx s.w f.aD f.gone;have fit:=UU s.w f.aD f.gone;have oks:=WM (gone:=f.gone) ho.c ho.shown hf.aD (by omega);have PC:=λl (h1:∀r∈l,cQ r=0) (h2:cL l) (h3:l.length<=64)=>(⟨hd.n.PC (l:=l) h1,WO ho.pins h2 h3,PB s.p l⟩:kG (nR s.p l).1/\mD (nR s.p l).1/\jR (nR s.p l).1=true);unfold q9 lU at hV;rw[wso]at hV;unfold lU at sws fit oks;rw[wso]at sws fit oks;have cl:=ho.cl;have adl:=L.1;have gol:=L.2.1;have nms:=Gw h2;have rm0:=X.room;have rm1:=(KN.1 rm0).1;refine CI.p (Ws s.iT f.kind f.cN) ?_;simp;generalize Nonce.take s.iT f.kind f.cN=T at hV⊢;obtain⟨I,E⟩:=T;simp only at hV⊢;rcases O9 h2 with hk|hk|hk|hk
  all_goals
   by_cases e0:E=0
   ·subst e0;simp only[fK]at hV;by_cases h5:s.turn=2147483647
    ·have fb:nW s=true:=by simp[nW,h5]
     rw[aZ fb]at hV;subst hV;simp[h5];exact aA (by simp[h1,h5])
    ·have fb:¬nW s=true:=by simp[nW,h5]
     rw[aT fb,aT fb]at hV;simp[h5,hk];refine dr ?_;refine CI.p (Wq s.w f.aD f.gone X.w (by omega) (by omega) nms) ?_;simp;generalize sR s.w f.aD f.gone=W at hV fit oks sws⊢;obtain⟨w,ch,why⟩:=W;simp only at hV fit oks sws⊢;cases ch with
     |false=>
      simp only[A1,false_and,iO,rm0,EJ,EC]at hV;have h6:¬(64:Int)<(gI s.p).length:=by omega
      subst hV;simp[hk];refine CI.p (II s.p ho.pins) ?_;simp;simp[h6,hk];refine CI.p (G8 {s with w:=w,fS:=s.fS.set f.kind why,iT:=I} ⟨2,f.aM,f.kind,f.cN,0,[],[],why,[],[]⟩ ⟨oks.1,by simp only;omega,oks.2,ho.aR,ho.next,ho.sl⟩ (by simp only;omega) t.1) ?_ (ha:=by simp[hk,iV.set,h1,h3]);simp[hk,iV.set,h1,h3];exact aA (by simp[rN,oT,iV.set,iV.get,hk,h1,h3])
     |true=>
      have snw:=PC w.shown sws oks.2 fit.2;simp;refine CI.p (zcR s.p w.shown ho.sl) ?_;simp;generalize nR s.p w.shown=Q at hV snw⊢;obtain⟨q,qi,qe⟩:=Q;simp only at hV snw⊢;by_cases pe:qe=0
      rotate_left
      ·simp only[pe,MP,AQ,fK]at hV;subst hV;simp[pe];exact aA (by simp[h1])
      subst pe;simp only[EC,and_false,iO,fK]at hV;have rl:=zb5 snw.2.2 snw.1;simp;refine CI.p (II q snw.2.1) ?_;simp;by_cases h6:(gI q).length<=64
      ·have r6:wG q=true:=by rw[rl];simp[h6]
       have h7:¬(64:Int)<(gI q).length:=by omega
       simp only[r6,EJ,iO,EC]at hV;subst hV;simp[h7,hk];refine CI.p (G8 {s with w:=w,p:=q,fS:=s.fS.set f.kind why,iT:=I} ⟨2,f.aM,f.kind,f.cN,0,[],[],why,[],[]⟩ ⟨oks.1,by simp only;omega,oks.2,snw.2.1.aR,snw.2.1.next,snw.2.1.sl⟩ (by simp only;omega) t.1) ?_ (ha:=by simp[hk,iV.set,h1,h3]);simp[hk,iV.set,h1,h3];exact aA (by simp[rN,oT,iV.set,iV.get,hk,h1,h3])
      ·have r6:wG q=false:=by rw[rl];simp;omega
       have h7:(64:Int)<(gI q).length:=by omega
       simp only[r6,fK,EC,iO]at hV;subst hV;simp[h7,hk];refine CI.p (G8 {s with fS:=s.fS.set f.kind 8,iT:=I} ⟨2,f.aM,f.kind,f.cN,0,[],[],8,[],[]⟩ ⟨ho.c,ho.cl,ho.shown,ho.aR,ho.next,ho.sl⟩ (by simp only;omega) t.1) ?_ (ha:=by simp[hk,iV.set,h1,h3]);simp[hk,iV.set,h1,h3];exact aA (by simp[rN,oT,iV.set,iV.get,hk,h1,h3])
   ·by_cases e9:E=9
    ·subst e9;simp only[e0,iO,fK]at hV;by_cases h5:s.turn=2147483647
     ·have fb:nW s=true:=by simp[nW,h5]
      rw[aZ fb]at hV;subst hV;simp[h5];exact aA (by simp[h1,h5])
     ·have fb:¬nW s=true:=by simp[nW,h5]
      rw[aT fb]at hV;subst hV;simp[h5,hk];refine dr ?_;refine CI.p (G8 s ⟨2,f.aM,f.kind,f.cN,0,[],[],s.fS.get f.kind,[],[]⟩ ho (by omega) t.1) ?_ (ha:=by simp[hk,iV.get,h1,h3]);simp[hk,iV.get,h1,h3];exact aA (by simp[rN,oT,iV.get,hk,h1,h3])
    ·simp only[e0,e9,iO]at hV;subst hV;simp[e0,e9];exact aA (by simp[h1])
theorem Rp (s:bS)(ho:dL s)(hs:dI s=true):C0 287 [st (dU s)] (.aU [st (dU (pT s).1),int (pT s).2.1,int (pT s).2.2]):=by
 refine Ct.B func287 ?_;simp;refine CI.p (J9 s ho hs) ?_;simp;unfold pT;rw[yF hs];refine CI.p (zdp s.p ho.sl) ?_;simp;exact aA
theorem zif (s:bS)(id:Int)(ho:dL s)(hs:dI s=true):C0 373 [st (dU s),int id] (.aU [st (dU (nX s id).1),aB ((nX s id).2.1.map cA),int (nX s id).2.2]):=by
 refine Ct.B func373 ?_;simp;refine CI.p (J9 s ho hs) ?_;simp;have X:=rX.1 hs;have t:=lI.1 X.turn;have okq:=PS id ho.pins;have hh:nX s id=zZ s id:=by unfold nX;rw[yF hs]
 rw[hh];clear hh;obtain⟨V,hV⟩:∃V,zZ s id=V:=⟨_,rfl⟩;rw[hV];unfold zZ at hV;refine CI.p (zcg s.p id ho.sl) ?_;simp;generalize tV s.p id=Q at hV okq⊢;obtain⟨q,e⟩:=Q;simp only at hV okq⊢;have lq:=Q4 okq;refine CI.p (II q okq) ?_;simp;refine CI.p (II s.p ho.pins) ?_;simp;refine CI.p (LB (gI q) (gI s.p) (by omega)) ?_;simp;refine dr ?_;by_cases h1:s.up=true
 ·by_cases h2:gI q=gI s.p
  ·rw[aZ (by simp[h2])]at hV;subst hV;simp[h1,h2];exact aA (by simp[h1])
  ·by_cases h3:s.turn=2147483647
   ·rw[aZ (by simp[nW,h3])]at hV;subst hV;simp[h1,h2,h3];exact aA (by simp[h1,h3])
   ·rw[aT (by simp[nW,h1,h2,h3])]at hV;subst hV;simp[h1,h2,h3];refine CI.p (G8 {s with p:=q} ⟨3,s.aM,0,0,0,[],[],0,[],[]⟩ ⟨ho.c,ho.cl,ho.shown,okq.aR,okq.next,okq.sl⟩ (by simp only;omega) t.1) ?_ (ha:=by simp[h1]);simp[h1];exact aA (by simp[oT,h1])
 ·have h1':s.up=false:=by simpa using h1
  rw[aZ (by simp[h1'])]at hV;subst hV;simp[h1'];exact aA (by simp[h1'])
theorem zau (s:bS)(ho:dL s)(hs:dI s=true):C0 140 [st (dU s)] (.aU [aB ((((uW s).map (·.l)).getD []).map aF),bool (uW s).isSome]):=by
 refine Ct.B func140 ?_;simp;refine CI.p (J9 s ho hs) ?_;simp;unfold uW;rw[yF hs];refine CI.p (Qj s.p ho.sl) ?_;simp;exact aA
theorem zbl (s:bS)(ho:dL s):C0 50 [st (dU s),st (dU s)] (bool true):=by
 refine Ct.B func50 ?_;simp;refine CI.p (zbn s.w ho.c ho.shown) ?_;simp;refine CI.p (zbm s.p ho.pins) ?_;simp;exact aA
attribute [simp] ntmps460 results460 ntmps461 results461 ntmps571 results571 ntmps530 results530 ntmps462 results462 ntmps531 results531 ntmps463 results463 ntmps377 results377 ntmps289 results289 ntmps376 results376 ntmps375 results375
theorem zfE (p h:Str)(hp:(bs p).length<=1000000)(hh:(bs h).length<=1000000):C0 460 [str p,str h] (bool (rF p h)):=by
 refine Ct.B func460 ?_;simp;have zp:=iA p;have zh:=iA h;rw[<-zfG];unfold XK;refine CI.p (Q2 p) ?_;simp;cases h1:j8 p with
 |false=>
  simp[h1];exact aA
 |true=>
  simp[h1];refine CI.p (Q2 h) ?_;simp;cases h2:j8 h with
  |false=>
   simp[h2];exact aA
  |true=>
   obtain⟨c,e0,e1⟩:∃c,(bs h)[0]? =some c/\(bs h).head? =some c:=by
    cases hb:bs h with
    |nil=>exact absurd hb (zgU h2)
    |cons c l=>exact⟨c,rfl,rfl⟩
   rw[e1];simp[h2,wN,e0];by_cases h3:c=42
   ·subst h3;simp;exact aA
   have h3':¬((c.toNat:Int)=42):=by
    intro e;apply h3;apply JI.1;show c.toNat=42;omega
   simp[h3'];by_cases h4:p=⟨#[42]⟩
   ·simp[h4];exact aA (by simp[h4,h3])
   by_cases h5:p=h
   ·subst h5;simp[h4];exact aA (by simp[h4,h3])
   simp[h4,h5];refine CI.p (UX p) ?_;simp;cases h6:mJ (bs p)with
   |false=>
    simp[h6];exact aA (by simp[h4,h5,h3])
   |true=>
    have l2:2<=(bs p).length:=by simp[mJ]at h6;exact h6.1
    have w1:IntKind.wrap .i64 (((bs p).length:Int)-1)=((bs p).length-1:Nat):=by rw[wz _];omega
    have ep:bs (p.extract 1 (bs p).length)=(bs p).drop 1:=LP p 1;have eh:bs (h.extract ((bs h).length-((bs p).length-1)) (bs h).length)=(bs h).drop ((bs h).length-((bs p).length-1)):=LP h _;simp[h6,zp,w1];refine bM (λh7=>?_) (λh7=>?_)<;>simp only[h7]<;>simp[zh]
    ·have h7':=lS h7;rw[zh]at h7';have w2:IntKind.wrap .i64 (((bs h).length:Int)-((bs p).length-1:Nat))=((bs h).length-((bs p).length-1):Nat):=by rw[wz _];omega
     simp[w2,zh,zp];refine⟨by omega,?_⟩;simp[A5,ep,eh];exact aK (by simp[h4,h5,h3,h7'])
    ·have h7':=pG h7;rw[zh]at h7';exact aK (by simp[h4,h5,h3,h7'])
theorem Vf (p s:Str)(hp:(bs p).length<=1000000)(hh:(bs s).length<=1000000):C0 461 [str p,str s] (bool (rQ p s)):=by
 refine Ct.B func461 ?_;simp;have zp:=iA p;have zh:=iA s;rw[<-Vh];unfold UA;refine CI.p (PJ p) ?_;simp;cases h1:kL p with
 |false=>
  simp[h1];exact aA
 |true=>
  simp[h1];refine CI.p (PJ s) ?_;simp;cases h2:kL s with
  |false=>
   simp[h2];exact aA
  |true=>
   have lp:1<=(bs p).length:=by simp[kL]at h1;omega
   simp[h2,zp,zh];by_cases h3:(bs s).length<(bs p).length
   ·simp[h3];exact aA (by simp[h3])
   have ep:bs (s.extract 0 (bs p).length)=(bs s).take (bs p).length:=by rw[AD];rfl
   simp[h3,zp,zh];refine⟨by omega,?_⟩;simp[A5,ep];by_cases h4:(bs s).take (bs p).length=bs p
   ·have w1:IntKind.wrap .i64 (((bs p).length:Int)-1)=((bs p).length-1:Nat):=by rw[wz _];omega
    obtain⟨c,e0,e1⟩:∃c,(bs p)[(bs p).length-1]? =some c/\(bs p).getLast? =some c:=by
     rw[GF];exact⟨(bs p)[(bs p).length-1],bO _,bO _⟩
    rw[e1];simp[h4,zp,w1,wN,e0];by_cases h5:c=47
    ·subst h5;simp;exact aA (by simp[h3,h4])
    have h5':¬((c.toNat:Int)=47):=by
     intro e;apply h5;apply JI.1;show c.toNat=47;omega
    simp[h5'];by_cases h6:(bs s).length=(bs p).length
    ·simp[h6,zp,zh];exact aA (by simp[h3,h4,h5,h6])
    have h6':¬((bs s).length:Int)=((bs p).length:Int):=by omega
    obtain⟨d,e2⟩:∃d,(bs s)[(bs p).length]? =some d:=⟨(bs s)[(bs p).length]'(by omega),bO _⟩;have e3:decide ((d.toNat:Int)=47)=decide (d=47):=EF.2 ⟨λe=>by apply JI.1;show d.toNat=47;omega,λe=>by subst e;rfl⟩;simp[h6,h6',zp,zh,wN,e2];exact aA (by simp[h3,h4,h5,h6,e2,e3])
   ·simp[h4];exact aA (by simp[h3,h4])
theorem O7 (s:Str):C0 571 [str s] (int (yL s)):=by
 refine Ct.B func571 ?_;simp;have zs:=iA s;unfold yL;by_cases h1:s=⟨#[42]⟩
 ·simp[h1];exact aA
 ·simp[h1];refine CI.p (UX s) ?_;simp;cases h2:mJ (bs s)with
  |true=>
   simp[h2];exact aA (by simp[zs])
  |false=>
   simp[h2];exact aA
theorem ze9 (a b:Str)(ha:(bs a).length<=1000000)(hb:(bs b).length<=1000000):C0 530 [str a,str b] (int (tY a b)):=by
 refine Ct.B func530 ?_;simp;rw[<-zfb ha hb];unfold XC;refine CI.p (O7 a) ?_;simp;refine CI.p (O7 b) ?_;simp;by_cases h1:yL b<yL a
 ·simp[h1];exact aA
 simp[h1];refine CI.p (O7 a) ?_;simp;refine CI.p (O7 b) ?_;simp;by_cases h2:yL a<yL b
 ·simp[h2];exact aA
 ·simp[h2];exact aA
theorem zj6 (a b:cH)(ha:(bs a.host).length<=1000000)(hb:(bs b.host).length<=1000000):C0 462 [st (dJ a),st (dJ b)] (bool (pU a b)):=by
 refine Ct.B func462 ?_;simp;have hs:=iA a.pre;have hq:=iA b.pre;rw[<-zj8];unfold ZV;refine CI.p (ze9 a.host b.host ha hb) ?_;simp;by_cases h1:0<tY a.host b.host
 ·simp[h1];exact aA
 ·by_cases h2:tY a.host b.host=0
  ·simp[h1,h2];exact aA (by simp[hs,hq])
  ·simp[h1,h2];exact aA
theorem Ui (w:Weight):C0 531 [st (wC w)] (int (lT w)):=by
 refine Ct.B func531 ?_;simp;have e:=Rn w.w;exact aA (by simp[e,lT])
theorem Cb (l:List Weight)(hl:l.length<=1000000):C0 463 [aB (l.map wC)] (int (l7 l)):=by
 refine Ct.B func463 ?_;simp;refine aH.V (l) (λk=>[(0,aB (l.map wC)),(3,int (l7 (l.take k.1))),(4,int k.1)]) (λk=>[]) 64 (λk hk1 B hB=>?_) (h0:=by constructor<;>simp[NI]);simp[NI];rcases bC hk1 with⟨w,hk,hx,hr,hm,ht,hd,hw,h⟩|rfl
 ·simp[h,hr,hw];have hb:=NJ (l.take k);have hwb:=NC w;have hlen:(l.take k).length<=1000000:=by simp;omega
  have w1:=wz (l7 (l.take k)+lT w);refine CI.p (Ui w) ?_ (ha:=by simp[w1]);simp[w1];exact hB hk (by constructor<;>simp[hw,ht,Cc])
 ·simp;exact aA
theorem zgT (l:List Int)(draw:Int)(hl:l.length<=1000000):C0 377 [aB (l.map kP),int draw] (.aU [int (yS l draw).1,bool (yS l draw).2]):=by
 refine Ct.B func377 ?_;simp;by_cases hq:l=[]
 ·subst hq;simp;exact aA (by simp[yS])
 ·obtain⟨k,e1,e2,e3⟩:=Nv draw hq;have hz:¬(l.length:Int)=0:=by have:=vS.2 hq;omega
  simp[hq,e1,e2];exact aA (by simp[e3,e2])
theorem zfP (l:List aC)(port:Int)(hl:l.length<=1000000):C0 289 [aB (l.map aF),int port] (.aU [st (aF ((yN l port).getD fV)),bool (yN l port).isSome]):=by
 refine Ct.B func289 ?_;simp;refine aH.inv mixed rfl (ι:={k:Nat//k<=(l).length/\(l.take k).all (λr=>!DZ port r)=true}) (λk=>[(0,aB (l.map aF)),(1,int port),(4,.ptr 64 0),(6,int k.1)]) (λk=>[(64,.cells [.d (iD 0),.d (sD ⟨#[]⟩),.d (iD 0),.d (iD 0),.d (sD ⟨#[]⟩),.d (.v (.slice none 0 0)),.d (.v (.slice none 0 0))] 174)]) 65 (λk=>(l).length-k.1) ⟨0,by omega,by simp⟩ [] (by constructor<;>simp) ?_;rintro⟨k,hk1,hi⟩ B hB;refine CI.n ?_;simp;rcases bC hk1 with⟨x,hk,hx,hr,hm,ht,hd,hw,h⟩|rfl
 ·simp[h,hr,hw];by_cases h1:x.kind=0
  ·by_cases h2:x.port=port
   ·have e:yN l port=some x:=FO (p:=DZ port) hi hr (by simp[DZ,h1,h2]);simp[h1,h2,hr];exact aA (by simp[e,h1,h2])
   ·simp[h1,h2,hr];have e:DZ port x=false:=by simp[DZ,h2]
    refine hB _ ⟨k+1,by omega,by simp[ht,hi,e]⟩ [] ?_ (by simp;omega);constructor<;>simp[hw,ht,e]
  ·have e:DZ port x=false:=by simp[DZ,h1]
   simp[h1];refine hB _ ⟨k+1,by omega,by simp[ht,hi,e]⟩ [] ?_ (by simp;omega);constructor<;>simp[hw,ht,e]
 ·simp;rw[bX]at hi;have e:yN l port=none:=IM (p:=DZ port) hi;exact aA (by simp[e,fV])
theorem zi8 (l:List Weight)(draw:Int)(hl:l.length<=1000000):C0 376 [aB (l.map wC),int draw] (.aU [str (DX l draw).1,bool (DX l draw).2]):=by
 refine Ct.B func376 ?_;simp;have hb:=NJ l;refine CI.p (Cb l hl) ?_;simp;unfold DX;generalize l7 l=n at*;by_cases hn:n=0
 ·simp[hn];exact aA
 ·have hn1:¬(n:Int)=0:=hn;have e0:(if 0<draw then draw else 0).tmod n=(max 0 draw).tmod n:=by rw[show(if 0<draw then draw else 0)=max 0 draw by omega]
  simp[hn,e0];generalize(max 0 draw).tmod n=n0 at*;refine aH.inv mixed rfl (ι:={z:Nat//z<=l.length/\F5 l n0 z}) (λk=>[(0,aB (l.map wC)),(7,int n0),(8,int k.1)]) (λk=>[]) 64 (λk=>l.length-k.1) ⟨0,by omega,zjo l n0⟩ [] (by constructor<;>simp) ?_;rintro⟨k,hk1,hI⟩ B hB;refine CI.n ?_;simp;refine aX (λh zz=>?_) (λh zz=>?_)<;>simp only[zz]<;>simp
  ·have hk:k<l.length:=by simpa using h
   obtain⟨w,hx,hr,hm,ht,hd⟩:=iU hk;have hw:=wr (k:=k) (by omega);have et:=Vq ht;obtain⟨s1,s2⟩:=hI.step hd et;simp[hw];refine⟨by omega,?_⟩;refine CI.p (Cb (l.take (k+1)) (by simp;omega)) ?_;simp;refine aX (λh3 zz=>?_) (λh3 zz=>?_)<;>simp only[zz]<;>simp
   ·simp[hr];exact aA (by simp[s1 h3])
   ·refine hB _ ⟨k+1,hk,s2 h3⟩ [] ?_ (by simp;omega);constructor<;>simp[hw]
  ·have hkl:k=l.length:=by simp at h;omega
   subst hkl;exact aA (by simp[hI.last])
theorem zbS (l:List cH)(ho pa:Str)(hh:(bs ho).length<=1000000)(hs:(bs pa).length<=1000000)(hrs:∀r∈l,(bs r.host).length<=1000000/\(bs r.pre).length<=1000000)(hl:l.length<=1000000):C0 375 [aB (l.map dJ),str ho,str pa] (.aU [st (dJ (tT l ho pa).1),bool (tT l ho pa).2]):=by
 refine Ct.B func375 ?_;simp;refine aH.gH 8 3 179 rfl ?_;refine aH.V (l) (λk=>[(0,aB (l.map dJ)),(1,str ho),(2,str pa),(6,.ptr 64 0),(8,.own 65),(9,int k.1)]) (λk=>[(64,.cells [str ⟨#[]⟩,str ⟨#[]⟩,aB []] 179),(65,.grow 3 ((pO (l.take k.1) ho pa).map dJ) 179)]) 66 (λk hk1 B hB=>?_) (h0:=by constructor<;>simp[Lz]);simp[Lz];rcases bC hk1 with⟨x,hk,hx,hr,hm,ht,hd,hw,h⟩|rfl
 ·simp[h,hr,hw];have hlen:(pO (l.take k) ho pa).length<=1000000:=dH (Ma _ _ _) (by simp;omega);have ta:=zfC (l.take k) x ho pa;refine CI.p (zfE x.host ho (hrs x hm).1 hh) ?_ (ha:=by simp[hr,hk,hx,h]);simp[hr,hk,hx,h];cases h1:rF x.host ho with
  |false=>
   simp[h1];exact hB hk (by constructor<;>simp[hw,ht,ta,h1])
  |true=>
   simp[h1,hr,hk,hx,h];refine CI.p (Vf x.pre pa (hrs x hm).2 hs) ?_ (ha:=by simp[hr,hk,hx,h]);simp[hr,hk,hx,h];cases h2:rQ x.pre pa with
   |false=>
    simp[h2];exact hB hk (by constructor<;>simp[hw,ht,ta,h1,h2])
   |true=>
    simp[h2,hr,hk,hx,h];refine⟨by omega,?_⟩;exact hB hk (by constructor<;>simp[hw,ht,ta,h1,h2])
 ·simp;have hml:(pO l ho pa).length<=1000000:=dH (Ma _ _ _) hl;have hmm:∀r∈pO l ho pa,(bs r.host).length<=1000000:=λr hr=>(hrs r (zfD hr)).1;obtain⟨m,em⟩:∃m,pO l ho pa=m:=⟨_,rfl⟩;have yes:=λk x=>zbQ (l:=l) (ho:=ho) (pa:=pa) (k:=k) (x:=x);have no:=zbV (l:=l) (ho:=ho) (pa:=pa);rw[em]at hml hmm yes no⊢;clear em;refine aH.inv mixed rfl (ι:={k:Nat//k<=(m).length/\(m.take k).all (λr=>!vX m r)=true}) (λk=>[(6,.ptr 64 0),(8,.own 65),(10,int k.1)]) (λk=>[(64,.cells [str ⟨#[]⟩,str ⟨#[]⟩,aB []] 179),(65,.grow 3 (m.map dJ) 179)]) 66 (λk=>(m).length-k.1) ⟨0,by omega,by simp⟩ [] (by constructor<;>simp) ?_;rintro⟨k,hk1,hi⟩ B hB;refine CI.n ?_;simp;rcases bC hk1 with⟨x,hk,hx,hr,hm,ht,hd,hw,h⟩|rfl
  ·simp[h,hr,hw];refine aH.V (m) (λkj=>[(6,.ptr 64 0),(8,.own 65),(10,int k),(11,bool (vX (m.take kj.1) x)),(12,int kj.1)]) (λkj=>[(64,.cells [str ⟨#[]⟩,str ⟨#[]⟩,aB []] 179),(65,.grow 3 (m.map dJ) 179)]) 66 (λkj hk1j Bj hBj=>?_) (h0:=by constructor<;>simp[Br]);simp[Br];rcases bC hk1j with⟨y,hkj,hxj,hrj,hmj,htj,hdj,hwj,hj⟩|rfl
   ·simp[hj,hrj,hwj];have tu:=Vi (m.take kj) y x;cases h1:vX (m.take kj) x with
    |false=>
     simp[h1];refine dr ?_;exact hBj hkj (by constructor<;>simp[hwj,htj,tu,h1])
    |true=>
     simp[h1,hrj,hkj,hxj,hj,hr,hk,hx,h];refine CI.p (zj6 y x (hmm y hmj) (hmm x hm)) ?_ (ha:=by simp[hrj,hkj,hxj,hj,hr,hk,hx,h]);simp[hrj,hkj,hxj,hj,hr,hk,hx,h];refine dr ?_;exact hBj hkj (by constructor<;>simp[hwj,htj,tu,h1])
   ·simp;cases h1:vX m x with
    |true=>
     have e:=yes k x hi hr h1;simp[h1,hr,hk,hx,h];exact aA (by simp[e])
    |false=>
     simp[h1];refine hB _ ⟨k+1,by omega,by simp[ht,hi,h1]⟩ [] ?_ (by simp;omega);constructor<;>simp[hw,ht,h1]
  ·simp;rw[bX]at hi;have e:=no hi;exact aA (by simp[e])
attribute [simp] ntmps138 results138 ntmps285 results285 ntmps210 results210 ntmps288 results288 ntmps290 results290 ntmps291 results291 ntmps292 results292 ntmps209 results209
theorem Zi (r:lQ):0<=(mL r).stage/\(mL r).stage<=5:=by
 unfold mL;split
 ·next h=>
  simp only[lV,bL,EK,M4,JH]at h;omega
 ·simp[nH]
theorem Kr (a:G.Ask):C0 138 [st (IY a)] (st (oH (nH a))):=by
 refine Ct.B func138 ?_;simp;exact aA (by simp[nH,cU])
theorem OL (r:lQ):C0 285 [st (oH r)] (bool (lV r)):=by
 refine Ct.B func285 ?_;simp;by_cases a:0<=r.stage
 rotate_left
 ·have e:r.stage<0:=by omega
  simp[a];exact aA (by simp[lV,e])
 by_cases b:r.stage<=5
 rotate_left
 ·have e:5<r.stage:=by omega
  simp[a,b];exact aA (by simp[lV,e])
 by_cases c:0<=r.id
 rotate_left
 ·have e:r.id<0:=by omega
  simp[a,b,c];exact aA (by simp[lV,e])
 have a':¬r.stage<0:=by omega
 have b':¬5<r.stage:=by omega
 have c':¬r.id<0:=by omega
 by_cases d:r.stage=0
 ·simp[a,b,c,d];exact aA (by simp[lV,a',b',c',c,d])
 by_cases e:r.stage=5
 ·simp[a,b,c,d,e];exact aA (by simp[lV,a',b',c',c,d,e])
 ·simp[a,b,c,d,e];exact aA (by simp[lV,a',b',c',d,e])
theorem OP (r:lQ):C0 210 [st (oH r)] (bool (pK r)):=by
 refine Ct.B func210 ?_;simp;refine CI.p (OL r) ?_;simp;cases h1:lV r with
 |false=>
  simp[h1];exact aA (by simp[pK,mL,h1,nH])
 |true=>
  simp[h1];exact aA (by simp[pK,mL,h1])
theorem z7 (r:lQ)(s:bS)(a:y6)(h:dL s)(hx:dI s=true)(h0:0<=r.stage):C0 288 [st (oH r),st (dU s),st (Z4 a)] (.aU [st (oH (nY ⟨r,s,[]⟩ a).r),st (dU (nY ⟨r,s,[]⟩ a).s),aB ((nY ⟨r,s,[]⟩ a).told.map cA)]):=by
 refine Ct.B func288 ?_;simp;unfold nY;by_cases h1:r.stage=0
 ·simp[h1];exact aK (by simp[h1])
 ·have h2:0<r.stage:=by omega
  simp[h2];refine CI.p (zif s r.id h hx) ?_;simp;refine dr ?_;exact aA (by simp[h1])
theorem U7 (r:lQ)(s:bS)(h:dL s):C0 290 [st (oH r),st (dU s)] (aB ((nO ⟨r,s,[]⟩).map aF)):=by
 refine Ct.B func290 ?_;simp;refine CI.p (zhp s.p r.id h.sl) ?_;simp;exact aA (by simp[nO])
theorem zfN (r:lQ)(s:bS)(h:dL s)(hx:dI s=true)(hs:kG s.p)(h0:0<=r.stage)(ha:(bs r.a.host).length<=1000000)(hp:(bs r.a.path).length<=1000000):C0 291 [st (oH r),st (dU s)] (.aU [st (oH (yG ⟨r,s,[]⟩).r),st (dU (yG ⟨r,s,[]⟩).s),aB ((yG ⟨r,s,[]⟩).told.map cA)]):=by
 refine Ct.B func291 ?_;simp;refine CI.p (U7 r s h) ?_;simp;have hl:=LH h.pins r.id;refine CI.p (yU (nO ⟨r,s,[]⟩) ⟨1,r.yH⟩ (by unfold nO;simp only;omega)) ?_;simp;refine dr ?_;have hf:AM ((qO ⟨r,s,[]⟩ 1 r.yH).getD fV):=RA (hs.get r.id) _;unfold yG;dsimp only;have e:bI (nO ⟨r,s,[]⟩) ⟨1,r.yH⟩=qO ⟨r,s,[]⟩ 1 r.yH:=rfl;rw[e];generalize qO ⟨r,s,[]⟩ 1 r.yH=x at hf⊢;refine CI.p (zbS (x.getD fV).rules r.a.host r.a.path ha hp hf.each hf.rules) ?_;simp;have hc:=Fq hf r.a.host r.a.path;generalize tT (x.getD fV).rules r.a.host r.a.path=u at hc⊢;cases x with
 |none=>
  simp;refine CI.p (z7 r s ⟨2,⟨#[]⟩,0⟩ h hx h0) ?_;simp;exact aA
 |some x=>
  simp;cases hu:u.2 with
  |false=>
   simp[hu];refine CI.p (z7 r s ⟨2,⟨#[]⟩,0⟩ h hx h0) ?_;simp;exact aA (by simp[hu])
  |true=>
   simp[hu];refine CI.p (zi8 u.1.split r.a.first hc) ?_;simp;cases h3:(DX u.1.split r.a.first).2 with
   |false=>
    simp[h3];refine CI.p (z7 r s ⟨0,⟨#[]⟩,0⟩ h hx h0) ?_;simp;exact aA (by simp[hu,h3])
   |true=>
    simp[h3];exact aK (by simp[hu,h3])
theorem zb1 (r:lQ)(s:bS)(h:dL s)(hx:dI s=true)(hs:kG s.p)(h0:0<=r.stage):C0 292 [st (oH r),st (dU s)] (.aU [st (oH (yY ⟨r,s,[]⟩).r),st (dU (yY ⟨r,s,[]⟩).s),aB ((yY ⟨r,s,[]⟩).told.map cA)]):=by
 refine Ct.B func292 ?_;simp;refine CI.p (U7 r s h) ?_;simp;have hl:=LH h.pins r.id;have hl2:(nO ⟨r,s,[]⟩).length<=9223372036854775807:=by unfold nO;simp only;omega
 refine CI.p (yU (nO ⟨r,s,[]⟩) ⟨2,r.fT⟩ hl2) ?_;simp;unfold yY;dsimp only;have eg:bI (nO ⟨r,s,[]⟩) ⟨2,r.fT⟩=qO ⟨r,s,[]⟩ 2 r.fT:=rfl;rw[eg];generalize qO ⟨r,s,[]⟩ 2 r.fT=c;refine CI.p (yU (nO ⟨r,s,[]⟩) ⟨3,(c.getD fV).to⟩ hl2) ?_;simp;have hf:AM ((qO ⟨r,s,[]⟩ 3 (c.getD fV).to).getD fV):=RA (hs.get r.id) _;have eg:bI (nO ⟨r,s,[]⟩) ⟨3,(c.getD fV).to⟩=qO ⟨r,s,[]⟩ 3 (c.getD fV).to:=rfl;rw[eg];generalize qO ⟨r,s,[]⟩ 3 (c.getD fV).to=e at hf⊢;refine CI.p (zgT (e.getD fV).bH r.a.other hf.bH) ?_;simp;generalize yS (e.getD fV).bH r.a.other=u;cases c with
 |none=>
  simp;refine CI.p (z7 r s ⟨0,⟨#[]⟩,0⟩ h hx h0) ?_;simp;exact aA
 |some c=>
  simp;cases e with
  |none=>
   simp;refine CI.p (z7 r s ⟨0,⟨#[]⟩,0⟩ h hx h0) ?_;simp;exact aA
  |some e=>
   simp;cases h3:u.2 with
   |false=>
    simp[h3];refine CI.p (z7 r s ⟨0,⟨#[]⟩,0⟩ h hx h0) ?_;simp;exact aA (by simp[h3])
   |true=>
    simp[h3];exact aK (by simp[h3])
theorem Xq (r:lQ)(s:bS)(h:dL s)(hx:dI s=true)(hs:kG s.p)(ha:(bs r.a.host).length<=1000000)(hp:(bs r.a.path).length<=1000000):C0 209 [st (oH r),st (dU s)] (.aU [st (oH (mH r s).r),st (dU (mH r s).s),aB ((mH r s).told.map cA)]):=by
 refine Ct.B func209 ?_;simp;unfold mH sS;rw[yF hx];have hst:=Zi r;refine CI.p (OL r) ?_;simp;cases h1:lV r with
 |false=>
  have e:mL r=nH r.a:=by simp[mL,h1]
  rw[e];simp[h1];refine CI.p (Kr r.a) ?_;simp;refine CI.p (VG s h hx) ?_ (ha:=by simp[nH,cU]);simp[nH,cU];refine CI.p (Rp s h hx) ?_;simp;by_cases h2:(pT s).2.2=0
  ·simp[h2];exact aK (by simp[nH,vP,h2])
  ·simp[h2];refine CI.p (z7 (nH r.a) s ⟨0,⟨#[]⟩,0⟩ h hx (by simp[nH])) ?_ (ha:=by simp[nH,cU]);simp[nH,cU];exact aA (by simp[nH,vP,h2])
 |true=>
  have e:mL r=r:=by simp[mL,h1]
  rw[e]at hst⊢;simp[h1];refine CI.p (VG s h hx) ?_;simp;by_cases c0:r.stage=0
  ·simp[c0];refine CI.p (Rp s h hx) ?_;simp;by_cases h2:(pT s).2.2=0
   ·simp[h2];exact aK (by simp[vP,h2,c0])
   ·simp[h2];refine CI.p (z7 r s ⟨0,⟨#[]⟩,0⟩ h hx hst.1) ?_ (ha:=by simp[c0]);simp[c0];exact aA (by simp[vP,h2,c0])
  by_cases c1:r.stage=1
  ·simp[c1];refine CI.p (U7 r s h) ?_ (ha:=by simp[c1]);simp[c1];have hl:=LH h.pins r.id;refine CI.p (zfP (nO ⟨r,s,[]⟩) r.a.port (by unfold nO;simp only;omega)) ?_;simp;refine dr ?_;cases e:yN (nO ⟨r,s,[]⟩) r.a.port with
   |none=>
    simp[e];refine CI.p (z7 r s ⟨1,⟨#[]⟩,0⟩ h hx hst.1) ?_ (ha:=by simp[c1]);simp[c1];exact aA (by simp[zV,e,c1])
   |some x=>
    simp[e];exact aK (by simp[zV,e,c1])
  by_cases c2:r.stage=2
  ·simp[c2];refine CI.p (zfN r s h hx hs hst.1 ha hp) ?_ (ha:=by simp[c2]);simp[c2];exact aA (by simp[c2])
  by_cases c3:r.stage=3
  ·simp[c3];refine CI.p (zb1 r s h hx hs hst.1) ?_ (ha:=by simp[c3]);simp[c3];exact aA (by simp[c3])
  by_cases c4:r.stage=4
  ·simp[c4];refine CI.p (z7 r s r.out h hx hst.1) ?_ (ha:=by simp[c4]);simp[c4];exact aA (by simp[c4])
  ·simp[c0,c1,c2,c3,c4];exact aK (by simp[c0,c1,c2,c3,c4])
end Go.Proofs.YtobcmagefgdgdaaGreatDoor
namespace Go.G
theorem Vc {l:List Task}(h:l.Pairwise λa b=>a.n<b.n){k:Nat}{x y:Task}(hx:l[k+1]? =some x)(hy:l[k]? =some y):y.n<x.n:=by
 obtain⟨hk,rfl⟩:=cE.1 hx;obtain⟨hj,rfl⟩:=cE.1 hy;exact MR.1 h k (k+1) hj hk (by omega)
theorem Sf {l:List Task}{n:Int}(h:∀t∈l,t.n≠n):(l.any λt=>decide (t.n=n))=false:=by
 rw[JV];intro t ht;simpa using h t ht
theorem ziB {l:List Task}(h:(l.map Task.n).Nodup){k:Nat}{x:Task}(hr:l[k]? =some x):∀t∈l.take k,t.n≠x.n:=by
 intro t ht e;exact Pb (S:=[]) (by simpa using h) hr (by rw[EI];exact fU.2 ⟨t,ht,e⟩)
end Go.G
namespace Go.Proofs.YtobcmagefgdgdaaGreatDoor
open Go.AI Go.G Tryz
attribute [simp] ntmps286 results286 ntmps208 results208 ntmps137 results137 ntmps79 results79 ntmps139 results139
theorem Oc (l:List G.Task)(n:Int)(hl:l.length<=9223372036854775807):C0 286 [aB (l.map jP),int n] (bool (l.any λt=>decide (t.n=n))):=by
 refine Ct.B func286 ?_;simp;refine aH.inv mixed rfl (ι:={k:Nat//k<=(l).length/\(l.take k).all (λt=>!decide (t.n=n))=true}) (λk=>[(0,aB (l.map jP)),(1,int n),(5,int k.1)]) (λk=>[]) 64 (λk=>(l).length-k.1) ⟨0,by omega,by simp⟩ [] (by constructor<;>simp) ?_;rintro⟨k,hk1,hi⟩ B hB;refine CI.n ?_;simp;rcases bC hk1 with⟨x,hk,hx,hr,hm,ht,hd,hw,h⟩|rfl
 ·simp[h,hr,hw];by_cases h1:x.n=n
  ·have e:l.any (λt=>decide (t.n=n))=true:=CO.2 ⟨x,hm,by simp[h1]⟩;simp[h1,hr];exact aA (by simp[e])
  ·simp[h1,hr];refine hB _ ⟨k+1,by omega,by simp[ht,hi,h1]⟩ [] ?_ (by simp;omega);constructor<;>simp[hw,ht,h1]
 ·simp;rw[bX]at hi;have e:l.any (λt=>decide (t.n=n))=false:=by
   rw[JV];intro t ht;have:=dP.1 hi t ht;simpa using this
  exact aA (by simp[e])
theorem za6 (p:nK)(ho:AL p):C0 208 [st (rC p)] (bool true):=by
 refine Ct.B func208 ?_;simp;have n0:¬p.next<0:=by have:=ho.n0;omega
 have n1:¬100000<p.next:=by have:=ho.n1;omega
 have lt:=ho.lt;have ld:=ho.ld;have l1:¬(64:Int)<p.tasks.length:=by omega
 have l2:¬(1000:Int)<p.done.length:=by omega
 simp[n0,n1,l1,l2];refine aH.V (p.tasks) (λk=>[(1,.ptr 64 0),(3,int k.1)]) (λk=>[(64,.cells ((rC p).map .d) 143)]) 1024 (λk hk1 B hB=>?_);simp;rcases bC hk1 with⟨x,hk,hx,hr,hm,ht,hd,hw,h⟩|rfl
 ·simp[h,hr,hw];obtain⟨a1,a2⟩:=ho.rt x hm;obtain⟨a3,a4⟩:=ho.run x hm;have b1:¬x.n<1:=by omega
  have b2:¬p.next<x.n:=by omega
  by_cases k0:(k:Int)<=0
  ·have c1:¬0<k:=by omega
   simp[b1,b2,c1];refine CI.p (OL x.r) ?_ (ha:=by simp[a3]);simp[a3];refine CI.p (OP x.r) ?_ (ha:=by simp[a4]);simp[a4];refine dr ?_;exact hB hk (by constructor<;>simp[hw,ht])
  ·obtain⟨y,hy⟩:∃y,p.tasks[k-1]? =some y:=⟨p.tasks[k-1]'(by omega),bO _⟩;have b3:¬x.n<=y.n:=by have:=Vc ho.up (k:=k-1) (by rw[show k-1+1=k by omega];exact hr) hy;omega
   have w1:IntKind.wrap .i64 ((k:Int)-1)=(k-1:Nat):=by rw[wz _];omega
   have c1:0<k:=by omega
   have e1:=(cE.1 hy).1;have e2:=(cE.1 hy).2;simp[b1,b2,c1,w1,hy,e1,e2,b3];refine CI.p (OL x.r) ?_ (ha:=by simp[a3]);simp[a3];refine CI.p (OP x.r) ?_ (ha:=by simp[a4]);simp[a4];refine dr ?_;exact hB hk (by constructor<;>simp[hw,ht])
 ·simp;refine aH.V (p.done) (λk=>[(1,.ptr 64 0),(5,int k.1)]) (λk=>[(64,.cells ((rC p).map .d) 143)]) 1024 (λk hk1 B hB=>?_);simp;rcases bC hk1 with⟨x,hk,hx,hr,hm,ht,hd,hw,h⟩|rfl
  ·simp[h,hr,hw];obtain⟨a1,a2⟩:=ho.rd x hm;have a4:=ho.over x hm;have b1:¬x.n<1:=by omega
   have b2:¬p.next<x.n:=by omega
   have b3:=Sf (ziB ho.nd hr);have b4:=Sf (l:=p.tasks) (n:=x.n) λt ht=>ho.ap t ht x hm;simp[b1,b2];refine⟨by omega,?_⟩;refine CI.p (Oc (p.done.take k) x.n (by simp;omega)) ?_ (ha:=by simp[b3]);simp[b3];refine CI.p (Oc p.tasks x.n (by omega)) ?_ (ha:=by simp[b4]);simp[b4];refine CI.p (OP x.r) ?_ (ha:=by simp[a4]);simp[a4];refine dr ?_;exact hB hk (by constructor<;>simp[hw,ht])
  ·simp;exact aA
theorem De (p:nK)(h:AL p):C0 137 [st (rC p)] (st (rC p)):=by
 refine Ct.B func137 ?_;simp;refine CI.p (za6 p h) ?_;simp;exact aA
theorem Yk (p:nK)(a:G.Ask)(h:AL p):C0 79 [st (rC p),st (IY a)] (.aU [st (rC (tR p a).1),int (tR p a).2.1,int (tR p a).2.2]):=by
 refine Ct.B func79 ?_;simp;refine CI.p (De p h) ?_;simp;have n0:=h.n0;have n1:=h.n1;unfold tR;by_cases h1:64<=p.tasks.length
 ·have h1':(64:Int)<=p.tasks.length:=by omega
  simp[h1'];exact aA (by simp[h1])
 have h1':¬(64:Int)<=p.tasks.length:=by omega
 by_cases h2:p.next=100000
 ·simp[h1',h2];exact aA (by simp[h2])
 ·have w1:=wz (p.next+1);simp[h1',h2,w1];refine⟨by omega,?_⟩;refine CI.p (Kr a) ?_;simp;refine⟨by omega,?_⟩;refine dr ?_;exact aK (by simp[h1,h2,w1])
theorem zdv (p:nK)(s:bS)(draw:Int)(h:AL p)(ho:dL s)(hx:dI s=true)(hs:kG s.p)(ha:∀t∈p.tasks,(bs t.r.a.host).length<=1000000/\(bs t.r.a.path).length<=1000000):C0 139 [st (rC p),st (dU s),int draw] (.aU [st (rC (kK p s draw).1),st (dU (kK p s draw).2.1),aB ((kK p s draw).2.2.1.map cA),int (kK p s draw).2.2.2]):=by
 refine Ct.B func139 ?_;simp;refine CI.p (De p h) ?_;simp;have lt:=h.lt;have ld:=h.ld;by_cases h0:p.tasks=[]
 ·have e:kK p s draw=(p,s,[],10):=by unfold kK;simp[h0]
  simp[h0];refine dr ?_;exact aA (by simp[e,h0])
 have hpos:0<p.tasks.length:=vS.2 h0;obtain⟨e0,hk⟩:=Hz p draw hpos;obtain⟨t,hr⟩:∃t,p.tasks[qI p draw]? =some t:=⟨_,bO hk⟩;have htm:=gT hr;have hz:¬(p.tasks.length:Int)=0:=by omega
 have hx2:=(cE.1 hr).2;have e:kK p s draw=(if pK (mH t.r s).r then(⟨p.next,p.tasks.set (qI p draw) ⟨t.n,(mH t.r s).r⟩,p.done⟩,(mH t.r s).s,(mH t.r s).told,0)
  else(⟨p.next,p.tasks.eraseIdx (qI p draw),xG p.done ⟨t.n,(mH t.r s).r⟩⟩,(mH t.r s).s,(mH t.r s).told,0)):=by unfold kK;rw[hr]
 rw[e];generalize qI p draw=k at*;have wk:IntKind.wrap .i64 ((k:Int)+1)=((k+1:Nat):Int):=by rw[wz _];omega
 clear e;have hset:∀x,p.tasks.set k x=p.tasks.take k++[x]++p.tasks.drop (k+1):=λx=>by rw[List.set_eq_take_append_cons_drop,aZ hk];simp
 have hera:p.tasks.eraseIdx k=p.tasks.take k++p.tasks.drop (k+1):=List.eraseIdx_eq_take_drop_succ _ _;rw[hset,hera];have tk:(p.tasks.take k).length<=1000000:=by simp;omega
 have mt:min k p.tasks.length=k:=by omega
 have g1:(0:Int)<=k:=by omega
 have g2:(k:Int)<=p.tasks.length:=by omega
 have g3:((k+1:Nat):Int)<=p.tasks.length:=by omega
 have lk:iY (List.drop (k+1) (List.map jP p.tasks)) 13:=λe he=>by
  obtain⟨y,_,rfl⟩:=fU.1 (yB he);rfl
 simp[h0,hz,e0,hr,hk,hx2];refine CI.p (Xq t.r s ho hx hs (ha t htm).1 (ha t htm).2) ?_ (ha:=by simp[hr,hk,hx2]);simp[hr,hk,hx2];refine dr ?_;refine dr ?_
 repeat refine⟨by omega,?_⟩
 generalize mH t.r s=w;refine CI.p (OP w.r) ?_;simp;have t1:((k+1:Nat):Int).toNat=k+1:=rfl;cases h1:pK w.r with
 |true=>
  simp[h1,wk];refine⟨by omega,?_⟩;refine⟨by omega,?_⟩;refine⟨⟨lk,by omega⟩,?_⟩;refine dr ?_;exact aA (by simp[h1])
 |false=>
  simp[h1,wk];refine⟨by omega,?_⟩;refine⟨⟨lk,by omega⟩,?_⟩;refine⟨by omega,?_⟩;by_cases h2:p.done.length=1000
  ·have h2':(p.done.length:Int)=1000:=by omega
   have e9:∀x,xG p.done x=p.done.drop 1++[x]:=λx=>by unfold xG;rw[h2]
   have e8:List.take 999 (List.map jP p.done).tail=(List.map jP p.done).tail:=JK (by simp;omega);have ld2:iY (List.take 999 (List.map jP p.done).tail) 13:=λe he=>by
    obtain⟨y,_,rfl⟩:=fU.1 (List.mem_of_mem_tail (pY he));rfl
   simp[h2',h2];refine⟨ld2,?_⟩;refine dr ?_;exact aA (by simp[h1,e8,e9])
  ·have h2':¬(p.done.length:Int)=1000:=by omega
   have e9:∀x,xG p.done x=p.done++[x]:=λx=>by unfold xG;rw[show p.done.length-999=0 by omega];simp
   simp[h2'];refine⟨by omega,?_⟩;refine dr ?_;exact aA (by simp[h1,e9])
end Go.Proofs.YtobcmagefgdgdaaGreatDoor
