/-
  LAYERS 15, 20: the walks of steps, and of what is sent; what arguments are, what is laid.
-/
import Derived.Test.YtegplpagkajolaaGreatDoorWf
import Derived.Test.YtegplpagkajolaaGreatDoorPs
import Derived.Test.YtegplpagkajolaaGreatDoorFd
import Derived.Test.YtegplpagkajolaaGreatDoorFc
set_option linter.unusedSimpArgs false
set_option linter.unusedVariables false
set_option maxRecDepth 100000
set_option maxHeartbeats 8000000
namespace Go.Proofs.YtegplpagkajolaaGreatDoor
open Go.AI Go.G Tryz
attribute [simp] ntmps341 results341 ntmps344 results344 ntmps398 results398 ntmps280 results280 ntmps393 results393 ntmps351 results351 ntmps353 results353 ntmps414 results414 ntmps391 results391 ntmps394 results394 ntmps352 results352 ntmps395 results395 ntmps354 results354 ntmps279 results279 ntmps278 results278
noncomputable abbrev kI (j:eZ):List D:=[lD (j.aD.map aK),lD (j.gone.map bP),yA j.reach,lD (j.bF.map aK),lD (j.held.map bP)]
abbrev yB (j:eZ):Prop:=j.aD.length<=1000000/\j.gone.length<=1000000/\j.bF.length<=1000000/\j.held.length<=1000000
theorem zhl (l:List aA)(kf:D)(p:aA->Bool)(hf:∀x∈l,cB prog (.d kf) [st (aK x)] (bool (p x)))(hl:l.length<=1000000):Ct prog 341 [aC (l.map aK),.d kf] [] [] (.own 64) [(64,.grow 7 ((l.filter p).map aK) 126)]:=by
 refine Ct.B func341 ?_;simp;refine aQ.j1 5 7 126 rfl ?_;refine aQ.V (l) (fun k=>[(0,aC (l.map aK)),(1,.d kf),(5,.own 64),(8,aC (l.map aK)),(9,int l.length),(10,int k.1)]) (fun k=>[(64,.grow 7 (((l.take k.1).filter p).map aK) 126)]) 65 (fun k hk1 B hB=>?_);simp;refine aJ (fun h=>?_) (fun h=>?_)
 ·have hk:k<(l).length:=by simpa using h
  obtain⟨x,hx,hr,hm,ht,hd,hw⟩:=dL hk;simp only[h];simp[hr,hw];have hlen:((l.take k).filter p).length<=1000000:=fV (kS _ _) (by simp;omega);refine CI.ff (hf x hm) rfl rfl rfl ?_;simp;refine aJ (fun h1=>?_) (fun h1=>?_)<;>simp only[h1]<;>simp[hr]
  ·refine⟨by omega,?_⟩;exact hB hk (by constructor<;>simp[hw,ht,v7,h1])
  ·exact hB hk (by constructor<;>simp[hw,ht,v7,h1])
 ·obtain rfl:k=(l).length:=by simp at h;omega
  simp only[h];simp;exact⟨[(64,64)],by constructor<;>simp[aV,aW]⟩
theorem zfR (l:List aA)(n:Int)(hl:l.length<=1000000):Ct prog 344 [aC (l.map aK),int n] [] [] (.own 64) [(64,.grow 7 ((pW l n).map aK) 126)]:=by
 refine Ct.BS func344 mixed 1 400 ?_;simp;refine CI.s (tm:=[(0,aC (l.map aK)),(3,.d (.bM [iD n]))]) (mm:=[]) (nx:=65) [] [64] (by constructor<;>simp) ?_;refine CI.n ?_;simp;refine CI.cc [] (zhl l (.fn (.func 388) [] [.bM [iD n]]) (fun r=>decide (r.kind=n)) (fun r hr=>cB.mY (by exact Ns r n) call388 rfl rfl) hl) ?_;simp;exact⟨[(64,193)],by constructor<;>simp[aV,aW,pW]⟩
theorem Rt :Ct prog 398 [aC []] [] [] (aC []) []:=by
 refine Ct.B func398 ?_;simp;refine⟨?_,?_⟩
 ·exact aB (by simp) rfl
 ·exact aB (by simp) rfl
theorem ZW (x:Key)(l:List Key)(hl:l.length<=1000000):Ct prog 398 [aC ((x::l).map bP)] [] [] (.own 64) [(64,.grow 2 ((x::l).map bP) 149)]:=by
 refine Ct.B func398 ?_;simp;refine⟨by omega,?_⟩;exact⟨[(64,384)],by constructor<;>simp[aV,aW]⟩
theorem A6 (s:Step)(h:s.aD.length<=1000000/\s.gone.length<=1000000):Ct prog 280 [st (FP s)] [] [] (bool s.none) []:=by
 refine Ct.B func280 ?_;simp;obtain⟨h1,h2⟩:=h;have w:IntKind.wrap .i64 ((s.aD.length:Int)+s.gone.length)=s.aD.length+s.gone.length:=wrap_i64 (by omega) (by omega);have e:decide ((s.aD.length:Int)+s.gone.length=0)=s.none:=by unfold Step.none;exact N3.2 (by omega)
 simp[w];rw[e];exact aB (by simp) rfl
theorem zhF (j:eZ)(r:aA):Ct prog 393 [st (aK r),.d (.bM [.bM (kI j)])] [] [] (bool (!decide (r.key∈j.reach))) []:=by
 refine Ct.B func393 ?_;simp;by_cases h:r.key∈j.reach
 ·have e1:=GG h;refine CI.p (oX r) ?_ (ha:=by simp[e1]);simp[e1];refine⟨by decide+kernel,?_⟩;exact aB (by simp[h]) rfl
 ·have e1:=I4 h;refine CI.p (oX r) ?_ (ha:=by simp[e1]);simp[e1];refine⟨by decide+kernel,?_⟩;exact aB (by simp[h]) rfl
theorem ZI (j:eZ)(n:Int)(hj:yB j):Ct prog 351 [.d (.bM (kI j)),int n] [] [] (st (FP (j.early n))) []:=by
 refine Ct.BS func351 mixed 1 400 ?_;simp;refine CI.s (tm:=[(1,int n),(2,.d (.bM [.bM (kI j)])),(4,.ptr 64 0)]) (mm:=[(64,.cells [int 0,aC [],aC []] 306)]) (nx:=65) [(64,128)] [64] (by constructor<;>simp) ?_;refine CI.n ?_;simp;obtain⟨K,hK⟩:∃K,pW j.aD n=K:=⟨_,rfl⟩;have hlen:K.length<=1000000:=by rw[<-hK];exact fV (MO _ _) hj.1
 have e:(j.early n).aD=K.filter fun r=>!(!decide (r.key∈j.reach)):=by simp[eZ.early,hK]
 have e1:(j.early n).kind=n:=rfl;have e2:(j.early n).gone=[]:=rfl;refine CI.cc [] (zfR j.aD n hj.1) ?_;simp;rw[hK,e,e1,e2];clear e e1 e2 hK;cases K with
 |nil=>
  refine CI.g [385] [] (SM (.fn (.func 393) [] [.bM [.bM (kI j)]])) ?_;simp;exact aB (by simp) rfl
 |cons x l=>
  refine CI.cc [385] (SO (x::l) (.fn (.func 393) [] [.bM [.bM (kI j)]]) (fun r=>!decide (r.key∈j.reach)) (fun r hr=>cB.mY (by exact zhF j r) call393 rfl rfl) hlen) ?_;simp;exact aB (by simp) rfl
theorem RG (j:eZ)(n:Int)(hj:yB j):Ct prog 353 [.d (.bM (kI j)),int n] [] [] (st (FP (j.late n))) []:=by
 refine Ct.B func353 ?_;simp;refine CI.p (Np j.aD n hj.1) ?_;simp;exact aB (by simp[eZ.late,pW]) rfl
theorem Jy (n:Int)(k_:Key):Ct prog 414 [st (bP k_),.d (.bM [iD n])] [] [] (bool (!decide (k_.kind=n))) []:=by
 refine Ct.B func414 ?_;simp;exact aB (by simp) rfl
theorem zib (l:List Key)(kf:D)(p:Key->Bool)(hf:∀x∈l,cB prog (.d kf) [st (bP x)] (bool (p x)))(hl:l.length<=1000000)(h1:jH p l= -1):Ct prog 391 [.own 0,.d kf] [] [(0,.grow 2 (l.map bP) 149)] (.own 0) [(0,.grow 2 (l.map bP) 149)]:=by
 refine Ct.B func391 ?_;simp;refine CI.cc [0] (YJ l kf p hf (by omega)) ?_;simp;simp[h1];exact⟨[],by constructor<;>simp[aV,aW]⟩
theorem zh9 (l:List Key)(kf:D)(p:Key->Bool)(hf:∀x∈l,cB prog (.d kf) [st (bP x)] (bool (p x)))(hl:l.length<=1000000)(i:Nat)(x:Key)(h1:jH p l=i)(h2:i<l.length):Ct prog 391 [.own 0,.d kf] [] [(0,.grow 2 (l.map bP) 149)] (.sl 0 2 0 (l.filter fun x=>!p x).length) [(0,.grow 2 ((l.filter fun x=>!p x).map bP++List.replicate (l.length-(l.filter fun x=>!p x).length) [iD 0,sD ⟨#[]⟩]) 149)]:=by
 refine Ct.B func391 ?_;simp;refine CI.cc [0] (YJ l kf p hf (by omega)) ?_;simp;have hne:¬(i:Int)= -1:=by omega
 have hwi:IntKind.wrap .i64 ((i:Int)+1)=i+1:=wrap_i64 (by omega) (by omega);simp[h1,hne,hwi];have d0:=p9.start (x:=x) h1 h2;refine aQ.inv mixed rfl (ι:={q:Nat×Nat×List Key//p9 p l q.1 q.2.1 q.2.2}) (fun k=>[(0,.own 0),(1,.d kf),(5,int k.1.2.1),(6,int k.1.1)]) (fun k=>[(0,.grow 2 (k.1.2.2.map bP) 149)]) 64 (fun k=>l.length-k.1.1) ⟨(i+1,i,l),d0⟩ [] (by constructor<;>simp) ?_;rintro⟨⟨j,i,cur⟩,hd⟩ B hB;clear h1 h2 hne hwi d0;have hlen:=hd.len;have hlt:=hd.lt;have hle:=hd.le;simp only at hlen hlt hle;have w1:IntKind.wrap .i64 ((j:Int)+1)=j+1:=wrap_i64 (by omega) (by omega);have w2:IntKind.wrap .i64 ((i:Int)+1)=i+1:=wrap_i64 (by omega) (by omega);refine CI.n ?_;simp[hlen];refine aJ (fun h=>?_) (fun h=>?_)<;>simp only[h]<;>simp<;>(try simp only[nT,nF,dT,dF]at h)
 ·have hj:j<l.length:=by omega
  have hv:l[j]? =some l[j]:=cI hj;have hm:l[j]∈l:=lU hj;generalize l[j]=v at hv hm;have hg:=hd.get hv;have hjc:j<cur.length:=by omega
  have hgx:cur[j]=v:=by rw[cI hjc]at hg;exact lT hg
  simp[hjc,hgx];refine CI.ff (hf v hm) rfl rfl rfl ?_;simp;have hic:i<cur.length:=by omega
  refine aJ (fun h2=>?_) (fun h2=>?_)<;>simp only[h2]<;>simp[hic]
  ·have hp:p v=false:=by simpa using h2
   refine hB _ ⟨(j+1,i+1,cur.set i v),hd.keep hv hp⟩ [] ?_ (by simp;omega);constructor<;>simp[w1,w2,HI]
  ·have hp:p v=true:=by simpa using h2
   refine hB _ ⟨(j+1,i,cur),hd.del hv hp⟩ [] ?_ (by simp;omega);constructor<;>simp[w1]
 ·have hj:j=l.length:=by omega
  subst hj;have e:cur.take i=l.filter (fun x=>!p x):=hd.done;simp[hlen];have e2:List.take i (List.map bP cur)=List.map bP (List.filter (fun x=>!p x) l):=by rw[<-DM,e]
  have e3:(List.filter (fun x=>!p x) l).length=i:=by rw[<-e,yV];omega
  refine⟨by omega,by omega,by omega,?_⟩;have e4:List.drop (i+(l.length-i)) (List.map bP cur)=[]:=by rw[UE];simp;omega
  rw[e2,e3,e4];exact⟨[],by constructor<;>simp[aV,aW]⟩
theorem zh7 (l:List Key)(kf:D)(p:Key->Bool)(hf:∀x∈l,cB prog (.d kf) [st (bP x)] (bool (p x)))(hl:l.length<=1000000):Ct prog 391 [.own 0,.d kf] [] [(0,.grow 2 (l.map bP) 149)] (.own 64) [(64,.grow 2 ((l.filter fun x=>!p x).map bP) 149)]:=by
 rcases JM p l with⟨h1,h2⟩|⟨i,x,h1,h2,h3,h4⟩
 ·have e:(l.filter fun x=>!p x)=l:=by
   rw[HL];intro a ha;have:=xJ.1 h2 a ha;simpa using this
  have:=Ct.OM (Or.inl ⟨rfl,rfl⟩) (cM _) (zib l kf p hf hl h1);rw[fA]at this;rw[e];exact this
 ·have:=Ct.OM (Or.inr rfl) (by simp) (zh9 l kf p hf hl i x h1 h2);rw[List.take_left' (by simp)]at this;exact this
theorem Jx (j:eZ)(n:Int)(hj:yB j):Ct prog 394 [.d (.bM (kI j)),int n] [] [] (st (FP (j.off n))) []:=by
 refine Ct.BS func394 mixed 1 400 ?_;simp;refine CI.s (tm:=[(0,.d (.bM (kI j))),(3,.d (.bM [iD n])),(4,.ptr 64 0)]) (mm:=[(64,.cells [int 0,aC [],aC []] 306)]) (nx:=65) [(64,128)] [64] (by constructor<;>simp) ?_;refine CI.n ?_;simp;have e:(j.off n).gone=j.gone.filter fun k=>!(!decide (k.kind=n)):=by simp[eZ.off,qM]
 have e1:(j.off n).kind=n:=rfl;have e2:(j.off n).aD=[]:=rfl;have hlen:=hj.2.1;rw[e,e1,e2];clear e e1 e2;generalize j.gone=G at hlen⊢;cases G with
 |nil=>
  refine CI.p Rt ?_;simp;refine CI.p (ZS (.fn (.func 414) [] [.bM [iD n]])) ?_;simp;exact aB (by simp) rfl
 |cons x l=>
  refine CI.cc [] (ZW x l (by simp at hlen;omega)) ?_;simp;refine CI.cc [321] (SN (x::l) (.fn (.func 414) [] [.bM [iD n]]) (fun k=>!decide (k.kind=n)) (fun k hk=>cB.mY (by exact Jy n k) call414 rfl rfl) hlen) ?_;simp;exact aB (by simp) rfl
theorem zei (j:eZ)(n:Int)(x:Key)(l:List Key)(hg:j.gone=x::l)(hj:yB j):Ct prog 394 [.d (.bM (kI j)),int n] [] [] (.agg [int n,aC [],.own 64]) [(64,.grow 2 ((qM j.gone n).map bP) 149)]:=by
 refine Ct.BS func394 mixed 1 400 ?_;simp;refine CI.s (tm:=[(0,.d (.bM (kI j))),(3,.d (.bM [iD n])),(4,.ptr 64 0)]) (mm:=[(64,.cells [int 0,aC [],aC []] 306)]) (nx:=65) [(64,128)] [64] (by constructor<;>simp) ?_;refine CI.n ?_;simp;have e:qM j.gone n=j.gone.filter fun k=>!(!decide (k.kind=n)):=by simp[qM]
 have hlen:=hj.2.1;rw[e,hg];rw[hg]at hlen;clear e;refine CI.cc [] (ZW x l (by simp at hlen;omega)) ?_;simp;refine CI.cc [321] (zh7 (x::l) (.fn (.func 414) [] [.bM [iD n]]) (fun k=>!decide (k.kind=n)) (fun k hk=>cB.mY (by exact Jy n k) call414 rfl rfl) hlen) ?_;simp;exact⟨[(64,449)],by constructor<;>simp[aV,aW]⟩
theorem zhU (j:eZ)(n:Int)(hj:yB j):Ct prog 352 [.d (.bM (kI j)),int n] [] [] (st (FP (j.doors n))) []:=by
 refine Ct.B func352 ?_;simp;refine CI.p (RG j n hj) ?_;simp;refine CI.p (Jx j n hj) ?_;simp;exact aB (by simp[eZ.doors,eZ.late,eZ.off]) rfl
theorem zg0 (j:eZ)(k_:Key)(hj:yB j):Ct prog 395 [st (bP k_),.d (.bM [.bM (kI j)])] [] [] (bool (!j.zP k_)) []:=by
 refine Ct.B func395 ?_;simp;refine CI.p (Ot j.held k_ (by have:=hj.2.2.2;omega)) ?_;simp;refine bX (fun h1=>?_) (fun h1=>?_)<;>simp only[h1]<;>simp
 ·have e:(!j.zP k_)=true:=by simp[eZ.zP,h1]
  rw[e];refine⟨by decide+kernel,?_⟩;exact aB (by simp) rfl
 ·refine CI.p (zcr j.bF k_ hj.2.2.1) ?_;simp;have e:(!j.zP k_)=decide (0<(uA j.bF k_).length):=by simp[eZ.zP,h1]
  rw[e];refine⟨by decide+kernel,?_⟩;exact aB (by simp) rfl
theorem YE (j:eZ)(n:Int)(hj:yB j):Ct prog 354 [.d (.bM (kI j)),int n] [] [] (st (FP (j.free n))) []:=by
 refine Ct.BS func354 mixed 1 400 ?_;simp;refine CI.s (tm:=[(1,int n),(2,.d (.bM [.bM (kI j)])),(4,.ptr 64 0)]) (mm:=[(64,.cells [int 0,aC [],aC []] 306)]) (nx:=65) [(64,128)] [64] (by constructor<;>simp) ?_;refine CI.n ?_;simp;have e:(j.free n).gone=(qM j.gone n).filter fun k=>!(!j.zP k):=by simp[eZ.free]
 have e1:(j.free n).kind=n:=rfl;have e2:(j.free n).aD=[]:=rfl;have hlen:(qM j.gone n).length<=1000000:=fV (RN _ _) hj.2.1;rw[e,e1,e2];clear e e1 e2;rcases hG:j.gone with _|⟨x,l⟩
 ·have o1:(j.off n).gone=[]:=by simp[eZ.off,qM,hG]
  have o2:(j.off n).kind=n:=rfl;have o3:(j.off n).aD=[]:=rfl;have o4:qM [] n=[]:=rfl;refine CI.p (Jx j n hj) ?_ (ha:=by simp[o1,o2,o3]);simp[o1,o2,o3];refine CI.p (ZS (.fn (.func 395) [] [.bM [.bM (kI j)]])) ?_;simp;exact aB (by simp[o4]) rfl
 ·refine CI.cc [] (zei j n x l hG hj) ?_;simp;refine CI.cc [193] (SN (qM j.gone n) (.fn (.func 395) [] [.bM [.bM (kI j)]]) (fun k=>!j.zP k) (fun k _=>cB.mY (by exact zg0 j k hj) call395 rfl rfl) hlen) ?_;simp;exact aB (by simp[hG]) rfl
abbrev SA (f:FuncId)(j:List D):D:=.fn (.func f) [.bM j] []
noncomputable abbrev zdn (j:eZ):List (List D):=[[lD [[iD 3],[iD 2],[iD 1]],SA 351 (kI j)],[lD [[iD 0]],SA 352 (kI j)],[lD [[iD 3],[iD 2],[iD 1]],SA 353 (kI j)],[lD [[iD 1],[iD 2],[iD 3]],SA 354 (kI j)]]
theorem zdm (j:eZ):Ct prog 279 [.d (.bM (kI j))] [] [] (aC (zdn j)) []:=by
 refine Ct.B func279 ?_;simp;refine CI.L1 [128,256,640] 99 400 rfl rfl (by first|exact .inl rfl|exact .inr ⟨_,_,rfl,by simp⟩|exact .inr ⟨_,_,rfl,by simp[*]⟩) (by simp) ?_;simp[zO,pX];exact aB (by simp) rfl
theorem zji (hv want:List aA)(held:List Key)(hh:dK hv)(hl:hv.length<=1000000)(hw:want.length<=100000)(ha:cW want):Ct prog 278 [aC (hv.map aK),aC (want.map aK),aC (held.map bP)] [] [] (.d (.bM (kI (cX hv want held)))) []:=by
 refine Ct.B func278 ?_;simp;refine CI.p (zhZ hv want hh hl (by omega)) ?_;simp;refine CI.p (II want ha hw) ?_;simp;have hrl:(dO want).length<=100000:=fV (kS _ _) hw;refine aQ.V ((dO want)) (fun k=>[(7,.ptr 64 0),(28,aC ((dO want).map aK)),(29,int (dO want).length),(30,int k.1)]) (fun k=>[(64,.cells [aC ((mN hv want).map aK),aC ((oG hv want).map bP),.own 65,aC (hv.map aK),aC (held.map bP)] 447),(65,.map true [.int,.str] false (pI (((dO want).take k.1).map aA.key)))]) 66 (fun k hk1 B hB=>?_) (h0:=by constructor<;>simp[I5]);simp[I5];refine aJ (fun h=>?_) (fun h=>?_)
 ·have hk:k<((dO want)).length:=by simpa using h
  obtain⟨x,hx,hr,hm,ht,hd,hw⟩:=dL hk;simp only[h];simp[hr,hw];refine CI.p (oX x) ?_;simp;refine⟨by decide+kernel,?_⟩;exact hB hk (by constructor<;>simp[hw,ht])
 ·obtain rfl:k=((dO want)).length:=by simp at h;omega
  simp only[h];simp;exact aB (by simp[cX]) rfl
theorem ZJ {j:eZ}(hj:yB j)(n:Int):(j.early n).aD.length<=1000000/\(j.early n).gone.length<=1000000:=
 ⟨fV (kS _ _) (fV (MO _ _) hj.1),by simp[eZ.early]⟩
theorem X4 {j:eZ}(hj:yB j)(n:Int):(j.late n).aD.length<=1000000/\(j.late n).gone.length<=1000000:=
 ⟨fV (MO _ _) hj.1,by simp[eZ.late]⟩
theorem zhV {j:eZ}(hj:yB j)(n:Int):(j.doors n).aD.length<=1000000/\(j.doors n).gone.length<=1000000:=
 ⟨fV (MO _ _) hj.1,fV (RN _ _) hj.2.1⟩
theorem Y5 {j:eZ}(hj:yB j)(n:Int):(j.free n).aD.length<=1000000/\(j.free n).gone.length<=1000000:=
 ⟨by simp[eZ.free],fV (kS _ _) (fV (RN _ _) hj.2.1)⟩
theorem Kw (hv want:List aA)(held:List Key)(hh:dK hv)(hl:hv.length<=1000000)(hw:want.length<=100000)(ha:cW want)(hd:held.length<=1000000):Ct prog 211 [aC (hv.map aK),aC (want.map aK),aC (held.map bP)] [] [] (.bI [st (FP ((mU hv want held).getD ⟨0,[],[]⟩)),bool (mU hv want held).isSome]) []:=by
 refine Ct.EO func211 rfl mixed (by rw[ntmps211];simp) (CI.zbf mixed (Plain.wI _ _ _ _ _) rfl (CI.run 99 400 rfl ?_));simp;refine CI.p (zji hv want held hh hl hw ha) ?_;simp;refine CI.p (zdm (cX hv want held)) ?_;simp;have hn:mU hv want held=(cX hv want held).steps.find? fun s=>!s.none:=rfl;have hj:yB (cX hv want held):=⟨fV (ZR _ _) (by omega),fV (ZQ _ _) hl,hl,hd⟩;rw[hn];clear hn;generalize cX hv want held=j at hj⊢;refine aQ.un ?_;simp;refine aQ.un ?_;simp;refine CI.ff (cB.j3 (args:=[int 3]) (first:=[.bM (kI j)]) (by exact ZI j 3 hj) call351 rfl rfl) rfl rfl rfl ?_;simp;refine CI.p (A6 (j.early 3) (ZJ hj 3)) ?_;simp;refine aJ (fun h1=>?_) (fun h1=>?_)<;>simp only[h1]<;>simp
 ·have h1':(j.early 3).none=false:=by simpa using h1
  have e:(j.steps.find? fun s=>!s.none)=some (j.early 3):=by simp[eZ.steps,oL,h1']
  exact aB (by simp[e]) rfl
 have h1':(j.early 3).none=true:=by simpa using h1
 refine aQ.un ?_;simp;refine CI.ff (cB.j3 (args:=[int 2]) (first:=[.bM (kI j)]) (by exact ZI j 2 hj) call351 rfl rfl) rfl rfl rfl ?_;simp;refine CI.p (A6 (j.early 2) (ZJ hj 2)) ?_;simp;refine aJ (fun h2=>?_) (fun h2=>?_)<;>simp only[h2]<;>simp
 ·have h2':(j.early 2).none=false:=by simpa using h2
  have e:(j.steps.find? fun s=>!s.none)=some (j.early 2):=by simp[eZ.steps,oL,h1',h2']
  exact aB (by simp[e]) rfl
 have h2':(j.early 2).none=true:=by simpa using h2
 refine aQ.un ?_;simp;refine CI.ff (cB.j3 (args:=[int 1]) (first:=[.bM (kI j)]) (by exact ZI j 1 hj) call351 rfl rfl) rfl rfl rfl ?_;simp;refine CI.p (A6 (j.early 1) (ZJ hj 1)) ?_;simp;refine aJ (fun h3=>?_) (fun h3=>?_)<;>simp only[h3]<;>simp
 ·have h3':(j.early 1).none=false:=by simpa using h3
  have e:(j.steps.find? fun s=>!s.none)=some (j.early 1):=by simp[eZ.steps,oL,h1',h2',h3']
  exact aB (by simp[e]) rfl
 have h3':(j.early 1).none=true:=by simpa using h3
 refine aQ.un ?_;simp;refine aQ.un ?_;simp;refine aQ.un ?_;simp;refine CI.ff (cB.j3 (args:=[int 0]) (first:=[.bM (kI j)]) (by exact zhU j 0 hj) call352 rfl rfl) rfl rfl rfl ?_;simp;refine CI.p (A6 (j.doors 0) (zhV hj 0)) ?_;simp;refine aJ (fun h4=>?_) (fun h4=>?_)<;>simp only[h4]<;>simp
 ·have h4':(j.doors 0).none=false:=by simpa using h4
  have e:(j.steps.find? fun s=>!s.none)=some (j.doors 0):=by simp[eZ.steps,oL,h1',h2',h3',h4']
  exact aB (by simp[e]) rfl
 have h4':(j.doors 0).none=true:=by simpa using h4
 refine aQ.un ?_;simp;refine aQ.un ?_;simp;refine aQ.un ?_;simp;refine CI.ff (cB.j3 (args:=[int 3]) (first:=[.bM (kI j)]) (by exact RG j 3 hj) call353 rfl rfl) rfl rfl rfl ?_;simp;refine CI.p (A6 (j.late 3) (X4 hj 3)) ?_;simp;refine aJ (fun h5=>?_) (fun h5=>?_)<;>simp only[h5]<;>simp
 ·have h5':(j.late 3).none=false:=by simpa using h5
  have e:(j.steps.find? fun s=>!s.none)=some (j.late 3):=by simp[eZ.steps,oL,h1',h2',h3',h4',h5']
  exact aB (by simp[e]) rfl
 have h5':(j.late 3).none=true:=by simpa using h5
 refine aQ.un ?_;simp;refine CI.ff (cB.j3 (args:=[int 2]) (first:=[.bM (kI j)]) (by exact RG j 2 hj) call353 rfl rfl) rfl rfl rfl ?_;simp;refine CI.p (A6 (j.late 2) (X4 hj 2)) ?_;simp;refine aJ (fun h6=>?_) (fun h6=>?_)<;>simp only[h6]<;>simp
 ·have h6':(j.late 2).none=false:=by simpa using h6
  have e:(j.steps.find? fun s=>!s.none)=some (j.late 2):=by simp[eZ.steps,oL,h1',h2',h3',h4',h5',h6']
  exact aB (by simp[e]) rfl
 have h6':(j.late 2).none=true:=by simpa using h6
 refine aQ.un ?_;simp;refine CI.ff (cB.j3 (args:=[int 1]) (first:=[.bM (kI j)]) (by exact RG j 1 hj) call353 rfl rfl) rfl rfl rfl ?_;simp;refine CI.p (A6 (j.late 1) (X4 hj 1)) ?_;simp;refine aJ (fun h7=>?_) (fun h7=>?_)<;>simp only[h7]<;>simp
 ·have h7':(j.late 1).none=false:=by simpa using h7
  have e:(j.steps.find? fun s=>!s.none)=some (j.late 1):=by simp[eZ.steps,oL,h1',h2',h3',h4',h5',h6',h7']
  exact aB (by simp[e]) rfl
 have h7':(j.late 1).none=true:=by simpa using h7
 refine aQ.un ?_;simp;refine aQ.un ?_;simp;refine aQ.un ?_;simp;refine CI.ff (cB.j3 (args:=[int 1]) (first:=[.bM (kI j)]) (by exact YE j 1 hj) call354 rfl rfl) rfl rfl rfl ?_;simp;refine CI.p (A6 (j.free 1) (Y5 hj 1)) ?_;simp;refine aJ (fun h8=>?_) (fun h8=>?_)<;>simp only[h8]<;>simp
 ·have h8':(j.free 1).none=false:=by simpa using h8
  have e:(j.steps.find? fun s=>!s.none)=some (j.free 1):=by simp[eZ.steps,oL,h1',h2',h3',h4',h5',h6',h7',h8']
  exact aB (by simp[e]) rfl
 have h8':(j.free 1).none=true:=by simpa using h8
 refine aQ.un ?_;simp;refine CI.ff (cB.j3 (args:=[int 2]) (first:=[.bM (kI j)]) (by exact YE j 2 hj) call354 rfl rfl) rfl rfl rfl ?_;simp;refine CI.p (A6 (j.free 2) (Y5 hj 2)) ?_;simp;refine aJ (fun h9=>?_) (fun h9=>?_)<;>simp only[h9]<;>simp
 ·have h9':(j.free 2).none=false:=by simpa using h9
  have e:(j.steps.find? fun s=>!s.none)=some (j.free 2):=by simp[eZ.steps,oL,h1',h2',h3',h4',h5',h6',h7',h8',h9']
  exact aB (by simp[e]) rfl
 have h9':(j.free 2).none=true:=by simpa using h9
 refine aQ.un ?_;simp;refine CI.ff (cB.j3 (args:=[int 3]) (first:=[.bM (kI j)]) (by exact YE j 3 hj) call354 rfl rfl) rfl rfl rfl ?_;simp;refine CI.p (A6 (j.free 3) (Y5 hj 3)) ?_;simp;refine aJ (fun h10=>?_) (fun h10=>?_)<;>simp only[h10]<;>simp
 ·have h10':(j.free 3).none=false:=by simpa using h10
  have e:(j.steps.find? fun s=>!s.none)=some (j.free 3):=by simp[eZ.steps,oL,h1',h2',h3',h4',h5',h6',h7',h8',h9',h10']
  exact aB (by simp[e]) rfl
 have h10':(j.free 3).none=true:=by simpa using h10
 refine aQ.un ?_;simp;refine aQ.un ?_;simp;have e:(j.steps.find? fun s=>!s.none)=none:=by simp[eZ.steps,oL,h1',h2',h3',h4',h5',h6',h7',h8',h9',h10']
 exact aB (by simp[e]) rfl
attribute [simp] ntmps164 results164 ntmps113 results113
theorem zcM (s:cL)(p:aT)(hs:xB s)(hl:s.v.bF.length<=1000000)(hpl:p.bV.length<=1000000)(hx:idle (kA s) p=false->cW (dR p)/\(dR p).length<=100000):Ct prog 164 [st (oP s),st (jT p)] [] [] (.bI [st (oP (dD s p).1),aC ((dD s p).2.1.map fY),int (dD s p).2.2]) []:=by
 refine Ct.B func164 ?_;simp;refine CI.p (VE s hs hl) ?_;simp;have hq0:=Dq s;have hqo:=Dr hs;have hh:dD s p=oB (kA s) p:=rfl;rw[hh];clear hh;generalize kA s=q at hq0 hqo hx⊢;have S:=lV.1 hq0;have b1:=S.hl;have b2:=S.dl;refine CI.p (AX p hpl) ?_;simp;refine bX (fun h1=>?_) (fun h1=>?_)<;>simp only[h1]<;>simp
 ·have hi:idle q p=true:=by
   have:q.lB=false:=by simpa using h1
   simp[idle,this]
  exact aB (by simp[oB,hi]) rfl
 have h1':q.lB=true:=by simpa using h1
 refine bX (fun h2=>?_) (fun h2=>?_)<;>simp only[h2]<;>simp
 ·have hi:idle q p=true:=by simp[idle,h2]
  exact aB (by simp[oB,hi,h2]) rfl
 refine bX (fun h3=>?_) (fun h3=>?_)<;>simp only[h3]<;>simp
 ·have h3':¬q.stuck=0:=by simpa using h3
  refine aJ (fun h4=>?_) (fun h4=>?_)<;>simp only[h4]<;>simp
  ·have h4':q.at_=oT p:=by simpa[oT]using h4
   have hi:idle q p=true:=by simp[idle,h3',h4']
   exact aB (by simp[oB,hi,h2]) rfl
  have h4':¬q.at_=oT p:=by simpa[oT]using h4
  have hi:idle q p=false:=by simp[idle,h1',h2,h4']
  obtain⟨ha,hw⟩:=hx hi;refine CI.p (Kw q.v.bF (dR p) q.v.held hqo.v.bF (by omega) hw ha (by omega)) ?_ (ha:=by simp[dR]);simp[dR];rcases hn:mU q.v.bF (fW (gZ p)) q.v.held with _|x
  ·simp;exact aB (by simp[oB,hi,h2,dR,hn]) rfl
  ·simp;refine CI.p (Kn q.out x.kind) ?_;simp;refine aJ (fun h5=>?_) (fun h5=>?_)<;>simp only[h5]<;>simp<;>(try simp only[nT,nF,dT,dF]at h5)
   ·first|exact aB (by simp[oB,hi,h2,dR,hn,tA,h5]) rfl|exact cK (by simp[oB,hi,h2,dR,hn,tA,h5])
   ·refine CI.p (Et q.v (gE q x (aE.push q.out x.kind).2.1)) ?_ (ha:=by simp[gE,h2]);simp[gE,h2];refine⟨by decide+kernel,?_⟩;first|exact aB (by simp[oB,hi,h2,dR,hn,tA,h5,gE,lK]) rfl|exact cK (by simp[oB,hi,h2,dR,hn,tA,h5,gE,lK])
 ·have h3':q.stuck=0:=by simpa using h3
  have hi:idle q p=false:=by simp[idle,h1',h2,h3']
  obtain⟨ha,hw⟩:=hx hi;refine CI.p (Kw q.v.bF (dR p) q.v.held hqo.v.bF (by omega) hw ha (by omega)) ?_ (ha:=by simp[dR]);simp[dR];rcases hn:mU q.v.bF (fW (gZ p)) q.v.held with _|x
  ·simp;exact aB (by simp[oB,hi,h2,dR,hn]) rfl
  ·simp;refine CI.p (Kn q.out x.kind) ?_;simp;refine aJ (fun h5=>?_) (fun h5=>?_)<;>simp only[h5]<;>simp<;>(try simp only[nT,nF,dT,dF]at h5)
   ·first|exact aB (by simp[oB,hi,h2,dR,hn,tA,h5]) rfl|exact cK (by simp[oB,hi,h2,dR,hn,tA,h5])
   ·refine CI.p (Et q.v (gE q x (aE.push q.out x.kind).2.1)) ?_ (ha:=by simp[gE,h2]);simp[gE,h2];refine⟨by decide+kernel,?_⟩;first|exact aB (by simp[oB,hi,h2,dR,hn,tA,h5,gE,lK]) rfl|exact cK (by simp[oB,hi,h2,dR,hn,tA,h5,gE,lK])
theorem AQ (s:cL)(hs:xB s)(hl:s.v.bF.length<=1000000):Ct prog 113 [st (oP s)] [] [] (aC ((fJ s).map fY)) []:=by
 refine Ct.B func113 ?_;simp;refine CI.p (VE s hs hl) ?_;simp;refine aJ (fun h1=>?_) (fun h1=>?_)<;>simp only[h1]<;>simp
 ·have h1':(kA s).v.open_=false:=by simpa using h1
  exact aB (by simp[fJ,h1']) rfl
 ·have h1':(kA s).v.open_=true:=by simpa using h1
  exact aB (by simp[fJ,h1']) rfl
end Go.Proofs.YtegplpagkajolaaGreatDoor
