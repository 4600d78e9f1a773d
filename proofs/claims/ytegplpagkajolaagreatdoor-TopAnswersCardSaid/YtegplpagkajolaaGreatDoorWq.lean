/-
  LAYER 24: each request of a sidecar, walked.
-/
import Derived.Test.YtegplpagkajolaaGreatDoorWo
import Derived.Test.YtegplpagkajolaaGreatDoorPt
set_option linter.unusedSimpArgs false
set_option linter.unusedVariables false
set_option maxRecDepth 100000
set_option maxHeartbeats 8000000
namespace Go.Proofs.YtegplpagkajolaaGreatDoor
open Go.AI Go.G Tryz
theorem Tc (r:Int):∃j:Nat,j<=3/\C5 .i64 r 3=j:=by
 have h:(BitVec.ofInt (IntKind.bits .i64) r&&&BitVec.ofInt (IntKind.bits .i64) 3).toNat<=3:=by
  rw[BitVec.toNat_and];exact fV Nat.and_le_right (by decide)
 simp only[C5];generalize(BitVec.ofInt (IntKind.bits .i64) r&&&BitVec.ofInt (IntKind.bits .i64) 3).toNat=q at h;exact⟨q,h,wrap_i64 (by omega) (by omega)⟩
theorem Eg :((hC v8).map (·.l)).getD []=[]/\fT v8:=by
 refine⟨by decide+kernel,?_⟩;exact⟨⟨by simp[v8],by simp[v8]⟩,by simp[v8],⟨by simp[v8],by simp[v8]⟩,by simp[v8],by simp[v8],by simp[v8]⟩
attribute [simp] ntmps6 results6
theorem Tb (x y:nC):decide (x=y)=(decide (x.nD=y.nD)&&(decide (x.gI=y.gI)&&decide (x.host=y.host))):=by
 obtain⟨a,b,c⟩:=x;obtain⟨d,e,f⟩:=y;simp only[nC.mk.injEq,Bool.decide_and]
theorem Sz (c:bS)(k:Nat):jA c k []=⟨aR c,[],[]⟩:=rfl
def D1 (N:G.bL)(j:Nat):bB:=(N.ns[j]?.map (·.side)).getD v8
theorem Kb {N:G.bL}(j:Nat)(h:∀n∈N.ns,dG n):((hC (D1 N j)).map (·.l)).getD []=(lX N j).1/\(hC (D1 N j)).isSome=(lX N j).2/\fT (D1 N j):=by
 unfold D1 lX;cases e:N.ns[j]? with
 |none=>exact⟨Eg.1,by decide+kernel,Eg.2⟩
 |some n=>exact⟨rfl,rfl,(h n (eH e)).d.x⟩
theorem Ec (N:G.bL){k:Nat}(j:Nat)(k_:Int)(hk:N.ns.length=k)(h1:1<=k)(h4:k<=4)(e:k_=j):Ct prog 13 [.ptr 0 0,int k_] (BC N.c N.p N.lost (aI N 0 k)) [] (.bI [st (jQ (D1 N j)),bool (N.ns[j]?).isSome]) []:=by
 unfold D1;cases h:N.ns[j]? with
 |some n=>exact LK N.c N.p N.lost _ k_ j n (by rw[kW];exact h4) (GC hk h) e
 |none=>
  have:=List.getElem?_eq_none_iff.1 h;exact zaF N.c N.p N.lost _ k_ (by rw[kW];exact h1) (by rw[kW];exact h4) (by rw[kW,e];omega)
theorem zke (c:bS)(l:List bJ)(i_:Int)(ha:∀s∈l,dK s.aD)(hl:l.length<=9223372036854775807)(hf:mJ l=true):cO eY prog 6 [st (jR c),aC (l.map cZ),int i_] [] [] (bool true) []:=by
 obtain⟨h60,hs⟩:=QD hf;obtain⟨j,hj,ej⟩:=Tc i_;rcases HZ c with hk|hk|hk|hk
 all_goals
  refine cO.B lZ func6 ?_;simp;refine CI.j [] JW ?_;simp;refine CI.p (JN l ha hl) ?_ (ha:=by simp[hf]);simp[hf];refine CI.p (Ri c) ?_;simp;refine CI.cc [] (Kz c) ?_ (ha:=by simp[hk,aI]) (hn:=by constructor<;>simp[fD,hk,aI]) (hk:=by simp[hk,aI]);simp[hk,aI];refine CI.p (Di l (by omega)) ?_;simp;refine aQ.j1 11 1 44 rfl ?_;refine aQ.j1 12 1 4 rfl ?_;refine aQ.j1 13 5 46 rfl ?_;refine aQ.j1 14 1 3 rfl ?_;refine aQ.V (l) (fun km=>[(7,bool true),(8,.ptr 640 0),(9,aC (l.map cZ)),(10,int j),(11,.own 1472),(12,.own 1473),(13,.own 1474),(14,.own 1475),(15,int km.1)]) (fun km=>BD 640 (aY (aR c) (l.take km.1)).1 (aI (aY (aR c) (l.take km.1)).1 0 (cR c))++[(1472,.grow 1 ((jA c j (l.take km.1)).H.map fun o=>[lD (o.1.map aK)]) 44),(1473,.grow 1 ((jA c j (l.take km.1)).H.map fun o=>[bD o.2]) 4),(1474,.grow 5 ((jA c j (l.take km.1)).A.map fun a=>sM a.1) 46),(1475,.grow 1 ((jA c j (l.take km.1)).A.map fun a=>[iD a.2]) 3)]) 1476 (fun km hk1m Bm hBm=>?_) (h0:=by constructor<;>simp[hk,aI,Sz,PU,ej]);simp[hk,aI,Sz,PU,ej];refine aJ (fun hm=>?_) (fun hm=>?_)
  ·have hkm:km<(l).length:=by simpa using hm
   obtain⟨s,hxm,hrm,hmm,htm,hdm,hwm⟩:=dL hkm;simp only[hm];simp[hrm,hwm];have okl:∀s∈l.take km,eK s:=fun s hm=>hs s (rP hm);have q:=mG (M:=aR c) (l.take km) (cN.new c) okl;have lk:(l.take km).length=km:=by simp;omega
   have hl4:cR c<=4:=by omega
   have hn:(aR c).ns.length=cR c:=by simp[aR]
   have okm:∀y∈l.take km++[s],eK y:=fun y hy=>(dN.1 hy).elim (okl y) fun g=>by rw[fI.1 g];exact hs s hmm
   have ps:=dH Prod.fst (rG s (l.take km) (aR c));have ok:=q.1.step (hs s hmm);have sl:=(uW q.1 s).trans (q.2.trans hn);have an:=answers c j (l:=l.take km) (s:=s) (by omega) okl (hs s hmm);have sn:=G5 c j (l.take km) s;have so:=Ez c j km (l.take km) lk (by omega) okl;have so':=Ez c j (km+1) (l.take km++[s]) (by simp;omega) (by omega) okm;have aa:=(BH c j km (l.take km) lk (by omega) okl).1;simp only at ps;rw[sn]at so';generalize jA c j (l.take km)=z at an sn so so' aa⊢;obtain⟨z1,H,A⟩:=z;simp only at aa;subst aa;obtain⟨an1,an2⟩:=an;simp only[uO]at an1 an2 sn so';refine CI.j [640,641,642,643,644,645] (wH (aY (aR c) (l.take km)).1 s _ (q.2.trans hn) q.1 (by omega) (hs s hmm)) ?_ (ha:=by simp[hk,aI]) (hn:=by constructor<;>simp[fD,hk,aI]) (hk:=by simp[hk,aI]);simp[hk,aI];generalize(aY (aR c) (l.take km)).1=M at an1 an2 sn so' ps ok sl⊢;generalize(bH M s).1=N at an2 sn so' ps ok sl⊢;generalize(bH M s).2=O at an1 an2 sn so'⊢;obtain⟨e1,e2,okx⟩:=Kb j ok.ok;refine CI.cc [640,641,642,643,644,645] (Ec N j j sl (by omega) (by omega) rfl) ?_ (ha:=by simp[hk,aI]) (hn:=by constructor<;>simp[fD,hk,aI]) (hk:=by simp[hk,aI]);simp[hk,aI];refine CI.p (LL (D1 N j) okx) ?_ (ha:=by simp[e1,e2]);simp[e1,e2];generalize lX N j=o at an2 sn so'⊢;have hH:H.length=km:=so.h;have hA:=so.a;simp only at hA;have l1:jV (H.map fun o=>[lD (o.1.map aK)]) 1:=fun e he=>by obtain⟨x,_,rfl⟩:=eR.1 he;rfl
   have l2:jV (H.map fun o=>[bD o.2]) 1:=fun e he=>by obtain⟨x,_,rfl⟩:=eR.1 he;rfl
   have l3:jV (A.map fun a=>[iD a.1.port,sD a.1.host,sD a.1.path,iD a.1.first,iD a.1.other]) 5:=fun e he=>by obtain⟨x,_,rfl⟩:=eR.1 he;rfl
   have l4:jV (A.map fun a=>[iD (a.2:Int)]) 1:=fun e he=>by obtain⟨x,_,rfl⟩:=eR.1 he;rfl
   by_cases h7:s.kind=7
   ·by_cases h2:s.side=(j:Int)
    ·by_cases h3:O.e=0
     ·rw[aU ⟨h7,h2,h3⟩]at sn;have h4:=an1 h7 h2 h3;simp[h7,h2,h3,hrm];refine⟨⟨l1,by omega⟩,?_⟩;refine⟨⟨l2,by omega⟩,?_⟩;refine⟨⟨l3,by omega⟩,?_⟩;refine⟨⟨l4,by omega⟩,?_⟩;simp[h4,h7,hrm];exact hBm hkm (by constructor<;>simp[hwm,htm,sn,ps,hk,aI,hH])
     ·rw[aH (fun q=>h3 q.2.2)]at sn;simp[h7,h2,h3,hrm];refine⟨⟨l1,by omega⟩,?_⟩;refine⟨⟨l2,by omega⟩,?_⟩;exact hBm hkm (by constructor<;>simp[hwm,htm,sn,ps,hk,aI])
    ·rw[aH (fun q=>h2 q.2.1)]at sn;simp[h7,h2,hrm];refine⟨⟨l1,by omega⟩,?_⟩;refine⟨⟨l2,by omega⟩,?_⟩;exact hBm hkm (by constructor<;>simp[hwm,htm,sn,ps,hk,aI])
   rw[aH (fun q=>h7 q.1)]at sn so';by_cases h8:s.kind=8
   ·by_cases h2:s.side=(j:Int)
    ·by_cases h3:0<O.n
     ·obtain⟨a,f,ha1,τ,o',ht1,ht2,ht3⟩:=an2 h8 h2 h3;obtain⟨m,hm⟩:∃m:Nat,O.n=(m:Int)+1:=⟨(O.n-1).toNat,by omega⟩;have em:(O.n-1).toNat=m:=by omega
      rw[em]at ha1;have hmA:m<A.length:=(cC.1 ha1).1;obtain⟨f1,f2,f3⟩:=so.af (a,f) (eH ha1);simp only at f1 f2 f3;have wm:IntKind.wrap .i64 (m:Int)=m:=wrap_i64 (by omega) (by omega);have c1:(0:Int)<m+1:=by omega
      have c2:¬(A.length:Int)<m+1:=by omega
      simp[h8,h2,c1,c2,hm,hrm];refine⟨⟨l1,by omega⟩,?_⟩;refine⟨⟨l2,by omega⟩,?_⟩;have hg:A[m]=(a,f):=(cC.1 ha1).2;obtain⟨H',hH'⟩:∃H',H'=H++[o]:=⟨_,rfl⟩;obtain⟨Q,hQ⟩:∃Q,Q=fun y:List aA×Bool=>decide (iZ y.1 y.2 a=O.iT):=⟨_,rfl⟩;rw[<-hH']at ht2 sn so';have hL:=so'.h;simp only at hL;simp[c1,c2,hm,wm,ha1,hmA,hg];refine aQ.inv mixed rfl (ι:={k:Nat//f<=k/\k<=km+1}) (fun k=>[(7,bool true),(8,.ptr 640 0),(9,aC (l.map cZ)),(10,int j),(11,.own 3460),(12,.own 3780),(13,.own 1474),(14,.own 1475),(15,int km),(16,.ptr 2116 0),(21,bool (uJ H' Q f k.1)),(22,int k.1)]) (fun k=>BD 640 N (aI N 0 (cR c))++[(2116,.cells ((eV O).map .d) 42),(3460,.grow 1 (H'.map fun o=>[lD (o.1.map aK)]) 44),(3780,.grow 1 (H'.map fun o=>[bD o.2]) 4),(1474,.grow 5 (A.map fun a=>sM a.1) 46),(1475,.grow 1 (A.map fun a=>[iD a.2]) 3)]) 7300 (fun k=>km+1-k.1) ⟨f,by omega,by omega⟩ [] (by constructor<;>simp[hk,aI,Pt,hm,hH']) ?_;rintro⟨t,ht5,ht6⟩ B hB;refine CI.n ?_;simp[hk,aI];refine aJ (fun h5=>?_) (fun h5=>?_)<;>simp only[h5]<;>simp<;>(try simp only[nT,nF,dT,dF]at h5)
      ·have ht7:t<H'.length:=by omega
       obtain⟨ot,hot⟩:∃ot,H'[t]? =some ot:=⟨_,cI ht7⟩;have hgt:H'[t]=ot:=(cC.1 hot).2;obtain⟨g1,g2⟩:=so'.hf ot (eH hot);have fs:=Pu Q hot ht5;have wt:IntKind.wrap .i64 ((t:Int)+1)=t+1:=wrap_i64 (by omega) (by omega);cases hb:uJ H' Q f t with
       |true=>
        simp[hb];refine⟨by decide+kernel,?_⟩;refine hB _ ⟨t+1,by omega,by omega⟩ [] ?_ (by simp;omega);constructor<;>simp[wt,fs,hb,hk,aI]
       |false=>
        simp[hb,hot,hgt,ht7,hm,wm,ha1,hmA,hg];refine CI.p (TJ ot.1 ot.2 a g1 g2 f1 f2) ?_ (ha:=by simp[hot,hgt,ht7,hm,wm,ha1,hmA,hg]);simp[hot,hgt,ht7,hm,wm,ha1,hmA,hg];refine⟨by decide+kernel,?_⟩;have fq:Q ot=decide (iZ ot.1 ot.2 a=O.iT):=by rw[hQ]
        rw[Tb]at fq;refine hB _ ⟨t+1,by omega,by omega⟩ [] ?_ (by simp;omega);constructor<;>simp[wt,fs,hb,hk,aI,fq,hm]
      ·have ht7:t=H'.length:=by omega
       have fa:=Pv ht2 ht1 (q:=Q) (by rw[hQ];simp[ht3]);subst ht7;simp[fa];exact hBm hkm (by constructor<;>simp[hwm,htm,sn,ps,hk,aI])
     ·simp[h8,h2,h3,hrm];refine⟨⟨l1,by omega⟩,?_⟩;refine⟨⟨l2,by omega⟩,?_⟩;exact hBm hkm (by constructor<;>simp[hwm,htm,sn,ps,hk,aI])
    ·simp[h8,h2,hrm];refine⟨⟨l1,by omega⟩,?_⟩;refine⟨⟨l2,by omega⟩,?_⟩;exact hBm hkm (by constructor<;>simp[hwm,htm,sn,ps,hk,aI])
   ·simp[h7,h8,hrm];refine⟨⟨l1,by omega⟩,?_⟩;refine⟨⟨l2,by omega⟩,?_⟩;exact hBm hkm (by constructor<;>simp[hwm,htm,sn,ps,hk,aI])
  ·obtain rfl:km=(l).length:=by simp at hm;omega
   simp only[hm];simp;exact⟨[],by constructor<;>simp[aV,aW]⟩
theorem zkf (c:bS)(l:List bJ)(i_:Int)(ha:∀s∈l,dK s.aD)(hl:l.length<=9223372036854775807)(hf:mJ l=false):cO eY prog 6 [st (jR c),aC (l.map cZ),int i_] [] [] (bool true) []:=by
 refine cO.B lZ func6 ?_;simp;refine CI.j [] JW ?_;simp;refine CI.p (JN l ha hl) ?_ (ha:=by simp[hf]);simp[hf];exact aB (by simp[hf]) rfl
theorem zfc (c:bS)(l:List bJ)(i_:Int)(h:l.length<=9223372036854775807/\∀s∈l,J9 s):cO eY prog 6 [st (jR c),aC (l.map cZ),int i_] [] [] (bool true) []:=by
 have hl:=h.1;have ha:∀s∈l,dK s.aD:=fun s hs=>(h.2 s hs).aD;by_cases hf:mJ l=true
 ·exact zke c l i_ ha hl hf
 ·exact zkf c l i_ ha hl (by simpa using hf)
end Go.Proofs.YtegplpagkajolaaGreatDoor
