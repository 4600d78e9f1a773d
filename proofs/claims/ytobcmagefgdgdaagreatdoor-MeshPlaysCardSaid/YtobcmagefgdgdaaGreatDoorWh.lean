/- LAYERS 15, 20, walked -/
import Derived.Test.YtobcmagefgdgdaaGreatDoorWf
set_option linter.unusedSimpArgs false
set_option linter.unusedVariables false
set_option maxRecDepth 100000
set_option maxHeartbeats 8000000
namespace Go.Proofs.YtobcmagefgdgdaaGreatDoor
open Go.AI Go.G Tryz
attribute [simp] ntmps468 results468 ntmps472 results472 ntmps551 results551 ntmps391 results391 ntmps546 results546 ntmps484 results484 ntmps486 results486 ntmps587 results587 ntmps544 results544 ntmps547 results547 ntmps485 results485 ntmps548 results548 ntmps487 results487 ntmps390 results390 ntmps389 results389
noncomputable abbrev j6 (j:dW):List D:=[lD (j.aD.map aF),lD (j.gone.map aQ),xO j.reach,lD (j.aP.map aF),lD (j.held.map aQ)]
abbrev xP (j:dW):Prop:=j.aD.length<=1000000/\j.gone.length<=1000000/\j.aP.length<=1000000/\j.held.length<=1000000
theorem zhW (l:List aC)(kf:D)(p:aC->Bool)(hf:∀x∈l,bN prog (.d kf) [st (aF x)] (bool (p x)))(hl:l.length<=1000000):C1 468 [aB (l.map aF),.d kf] [] [] (.own 64) [(64,.grow 7 ((l.filter p).map aF) 174)]:=by
 refine Ct.B func468 ?_;simp;refine aH.gH 5 7 174 rfl ?_;refine aH.V (l) (λk=>[(0,aB (l.map aF)),(1,.d kf),(5,.own 64),(8,aB (l.map aF)),(9,int l.length),(10,int k.1)]) (λk=>[(64,.grow 7 (((l.take k.1).filter p).map aF) 174)]) 65 (λk hk1 B hB=>?_);simp;rcases bC hk1 with⟨x,hk,hx,hr,hm,ht,hd,hw,h⟩|rfl
 ·simp[h,hr,hw];have hlen:((l.take k).filter p).length<=1000000:=dH (gJ _ _) (by simp;omega);refine CI.ff (hf x hm) rfl rfl rfl ?_;simp;refine bQ (λh1=>?_) (λh1=>?_)<;>simp only[h1]<;>simp[hr]
  ·refine⟨by omega,?_⟩;exact hB hk (by constructor<;>simp[hw,ht,nL,h1])
  ·exact hB hk (by constructor<;>simp[hw,ht,nL,h1])
 ·simp;exact⟨[(64,64)],by constructor<;>simp[aI,aJ]⟩
theorem zgh (l:List aC)(n:Int)(hl:l.length<=1000000):C1 472 [aB (l.map aF),int n] [] [] (.own 64) [(64,.grow 7 ((uD l n).map aF) 174)]:=by
 refine Ct.BS func472 mixed 1 400 ?_;simp;refine CI.s (tm:=[(0,aB (l.map aF)),(3,.d (.bE [iD n]))]) (mm:=[]) (nx:=65) [] [64] (by constructor<;>simp) ?_;refine CI.n ?_;simp;refine CI.cc [] (zhW l (.fn (.func 537) [] [.bE [iD n]]) (λr=>decide (r.kind=n)) (λr hr=>bN.nZ (by exact Nh r n) call537 rfl rfl) hl) ?_;simp;exact⟨[(64,193)],by constructor<;>simp[aI,aJ,uD]⟩
theorem Qw :C0 551 [aB []] (aB []):=by
 refine Ct.B func551 ?_;simp;refine⟨?_,?_⟩
 ·exact aA
 ·exact aA
theorem ZJ (x:Key)(l:List Key)(hl:l.length<=1000000):C1 551 [aB ((x::l).map aQ)] [] [] (.own 64) [(64,.grow 2 ((x::l).map aQ) 184)]:=by
 refine Ct.B func551 ?_;simp;refine⟨by omega,?_⟩;exact⟨[(64,384)],by constructor<;>simp[aI,aJ]⟩
theorem z6 (s:Step)(h:s.aD.length<=1000000/\s.gone.length<=1000000):C0 391 [st (CW s)] (bool s.none):=by
 refine Ct.B func391 ?_;simp;obtain⟨h1,h2⟩:=h;have w:IntKind.wrap .i64 ((s.aD.length:Int)+s.gone.length)=s.aD.length+s.gone.length:=wz _;have e:decide ((s.aD.length:Int)+s.gone.length=0)=s.none:=by unfold Step.none;exact EF.2 (by omega)
 simp[w];rw[e];exact aA
theorem zii (j:dW)(r:aC):C0 546 [st (aF r),.d (.bE [.bE (j6 j)])] (bool (!decide (r.key∈j.reach))):=by
 refine Ct.B func546 ?_;simp;by_cases h:r.key∈j.reach
 ·have e1:=FA h;refine CI.p (oK r) ?_ (ha:=by simp[e1]);simp[e1];refine dr ?_;exact aA (by simp[h])
 ·have e1:=H8 h;refine CI.p (oK r) ?_ (ha:=by simp[e1]);simp[e1];refine dr ?_;exact aA (by simp[h])
theorem Y9 (j:dW)(n:Int)(hj:xP j):C0 484 [.d (.bE (j6 j)),int n] (st (CW (j.early n))):=by
 refine Ct.BS func484 mixed 1 400 ?_;simp;refine CI.s (tm:=[(1,int n),(2,.d (.bE [.bE (j6 j)])),(4,.ptr 64 0)]) (mm:=[(64,.cells [int 0,aB [],aB []] 441)]) (nx:=65) [(64,128)] [64] (by constructor<;>simp) ?_;refine CI.n ?_;simp;obtain⟨K,hK⟩:∃K,uD j.aD n=K:=⟨_,rfl⟩;have hlen:K.length<=1000000:=by rw[<-hK];exact dH (LA _ _) hj.1
 have e:(j.early n).aD=K.filter λr=>!(!decide (r.key∈j.reach)):=by simp[dW.early,hK]
 have e1:(j.early n).kind=n:=rfl;have e2:(j.early n).gone=[]:=rfl;refine CI.cc [] (zgh j.aD n hj.1) ?_;simp;rw[hK,e,e1,e2];clear e e1 e2 hK;cases K with
 |nil=>
  refine CI.g [385] [] (RT (.fn (.func 546) [] [.bE [.bE (j6 j)]])) ?_;simp;exact aA
 |cons x l=>
  refine CI.cc [385] (RW (x::l) (.fn (.func 546) [] [.bE [.bE (j6 j)]]) (λr=>!decide (r.key∈j.reach)) (λr hr=>bN.nZ (by exact zii j r) call546 rfl rfl) hlen) ?_;simp;exact aA
theorem QN (j:dW)(n:Int)(hj:xP j):C0 486 [.d (.bE (j6 j)),int n] (st (CW (j.late n))):=by
 refine Ct.B func486 ?_;simp;refine CI.p (Nf j.aD n hj.1) ?_;simp;exact aA (by simp[dW.late,uD])
theorem Ju (n:Int)(k_:Key):C0 587 [st (aQ k_),.d (.bE [iD n])] (bool (!decide (k_.kind=n))):=by
 refine Ct.B func587 ?_;simp;exact aA
theorem ziP (l:List Key)(kf:D)(p:Key->Bool)(hf:∀x∈l,bN prog (.d kf) [st (aQ x)] (bool (p x)))(hl:l.length<=1000000)(h1:iZ p l= -1):C1 544 [.own 0,.d kf] [] [(0,.grow 2 (l.map aQ) 184)] (.own 0) [(0,.grow 2 (l.map aQ) 184)]:=by
 refine Ct.B func544 ?_;simp;refine CI.cc [0] (YG l kf p hf (by omega)) ?_;simp;simp[h1];exact⟨[],by constructor<;>simp[aI,aJ]⟩
theorem ziN (l:List Key)(kf:D)(p:Key->Bool)(hf:∀x∈l,bN prog (.d kf) [st (aQ x)] (bool (p x)))(hl:l.length<=1000000)(i:Nat)(x:Key)(h1:iZ p l=i)(h2:i<l.length):C1 544 [.own 0,.d kf] [] [(0,.grow 2 (l.map aQ) 184)] (.sl 0 2 0 (l.filter λx=>!p x).length) [(0,.grow 2 ((l.filter λx=>!p x).map aQ++List.replicate (l.length-(l.filter λx=>!p x).length) [iD 0,sD ⟨#[]⟩]) 184)]:=by
 refine Ct.B func544 ?_;simp;refine CI.cc [0] (YG l kf p hf (by omega)) ?_;simp;have hne:¬(i:Int)= -1:=by omega
 have hwi:IntKind.wrap .i64 ((i:Int)+1)=i+1:=wz _;simp[h1,hne,hwi];have d0:=pW.start (x:=x) h1 h2;refine aH.inv mixed rfl (ι:={q:Nat×Nat×List Key//pW p l q.1 q.2.1 q.2.2}) (λk=>[(0,.own 0),(1,.d kf),(5,int k.1.2.1),(6,int k.1.1)]) (λk=>[(0,.grow 2 (k.1.2.2.map aQ) 184)]) 64 (λk=>l.length-k.1.1) ⟨(i+1,i,l),d0⟩ [] (by constructor<;>simp) ?_;rintro⟨⟨j,i,cur⟩,hd⟩ B hB;clear h1 h2 hne hwi d0;have hlen:=hd.len;have hlt:=hd.lt;have hle:=hd.le;simp only at hlen hlt hle;have w1:IntKind.wrap .i64 ((j:Int)+1)=j+1:=wz _;have w2:IntKind.wrap .i64 ((i:Int)+1)=i+1:=wz _;refine CI.n ?_;simp[hlen];refine aX (λh zz=>?_) (λh zz=>?_)<;>simp only[zz]<;>simp
 ·have hj:j<l.length:=by omega
  have hv:l[j]? =some l[j]:=bO hj;have hm:l[j]∈l:=mF hj;generalize l[j]=v at hv hm;have hg:=hd.get hv;have hjc:j<cur.length:=by omega
  have hgx:cur[j]=v:=by rw[bO hjc]at hg;exact mW hg
  simp[hjc,hgx];refine CI.ff (hf v hm) rfl rfl rfl ?_;simp;have hic:i<cur.length:=by omega
  refine bQ (λh2=>?_) (λh2=>?_)<;>simp only[h2]<;>simp[hic]
  ·have hp:p v=false:=by simpa using h2
   refine hB _ ⟨(j+1,i+1,cur.set i v),hd.keep hv hp⟩ [] ?_ (by simp;omega);constructor<;>simp[w1,w2,GD]
  ·have hp:p v=true:=by simpa using h2
   refine hB _ ⟨(j+1,i,cur),hd.del hv hp⟩ [] ?_ (by simp;omega);constructor<;>simp[w1]
 ·have hj:j=l.length:=by omega
  subst hj;have e:cur.take i=l.filter (λx=>!p x):=hd.done;simp[hlen];have e2:List.take i (List.map aQ cur)=List.map aQ (List.filter (λx=>!p x) l):=by rw[<-zB,e]
  have e3:(List.filter (λx=>!p x) l).length=i:=by rw[<-e,CL];omega
  refine⟨by omega,by omega,by omega,?_⟩;have e4:List.drop (i+(l.length-i)) (List.map aQ cur)=[]:=by rw[JU];simp;omega
  rw[e2,e3,e4];exact⟨[],by constructor<;>simp[aI,aJ]⟩
theorem ziL (l:List Key)(kf:D)(p:Key->Bool)(hf:∀x∈l,bN prog (.d kf) [st (aQ x)] (bool (p x)))(hl:l.length<=1000000):C1 544 [.own 0,.d kf] [] [(0,.grow 2 (l.map aQ) 184)] (.own 64) [(64,.grow 2 ((l.filter λx=>!p x).map aQ) 184)]:=by
 rcases IP p l with⟨h1,h2⟩|⟨i,x,h1,h2,h3,h4⟩
 ·have e:(l.filter λx=>!p x)=l:=by
   rw[JS];intro a ha;have:=MX.1 h2 a ha;simpa using this
  have:=Ct.NH (Or.inl ⟨rfl,rfl⟩) (bY _) (ziP l kf p hf hl h1);rw[bX]at this;rw[e];exact this
 ·have:=Ct.NH (Or.inr rfl) (by simp) (ziN l kf p hf hl i x h1 h2);rw[List.take_left' (by simp)]at this;exact this
theorem Jt (j:dW)(n:Int)(hj:xP j):C0 547 [.d (.bE (j6 j)),int n] (st (CW (j.off n))):=by
 refine Ct.BS func547 mixed 1 400 ?_;simp;refine CI.s (tm:=[(0,.d (.bE (j6 j))),(3,.d (.bE [iD n])),(4,.ptr 64 0)]) (mm:=[(64,.cells [int 0,aB [],aB []] 441)]) (nx:=65) [(64,128)] [64] (by constructor<;>simp) ?_;refine CI.n ?_;simp;have e:(j.off n).gone=j.gone.filter λk=>!(!decide (k.kind=n)):=by simp[dW.off,qK]
 have e1:(j.off n).kind=n:=rfl;have e2:(j.off n).aD=[]:=rfl;have hlen:=hj.2.1;rw[e,e1,e2];clear e e1 e2;generalize j.gone=G at hlen⊢;cases G with
 |nil=>
  refine CI.p Qw ?_;simp;refine CI.p (ZH (.fn (.func 587) [] [.bE [iD n]])) ?_;simp;exact aA
 |cons x l=>
  refine CI.cc [] (ZJ x l (by simp at hlen;omega)) ?_;simp;refine CI.cc [321] (RU (x::l) (.fn (.func 587) [] [.bE [iD n]]) (λk=>!decide (k.kind=n)) (λk hk=>bN.nZ (by exact Ju n k) call587 rfl rfl) hlen) ?_;simp;exact aA
theorem zeB (j:dW)(n:Int)(x:Key)(l:List Key)(hg:j.gone=x::l)(hj:xP j):C1 547 [.d (.bE (j6 j)),int n] [] [] (.agg [int n,aB [],.own 64]) [(64,.grow 2 ((qK j.gone n).map aQ) 184)]:=by
 refine Ct.BS func547 mixed 1 400 ?_;simp;refine CI.s (tm:=[(0,.d (.bE (j6 j))),(3,.d (.bE [iD n])),(4,.ptr 64 0)]) (mm:=[(64,.cells [int 0,aB [],aB []] 441)]) (nx:=65) [(64,128)] [64] (by constructor<;>simp) ?_;refine CI.n ?_;simp;have e:qK j.gone n=j.gone.filter λk=>!(!decide (k.kind=n)):=by simp[qK]
 have hlen:=hj.2.1;rw[e,hg];rw[hg]at hlen;clear e;refine CI.cc [] (ZJ x l (by simp at hlen;omega)) ?_;simp;refine CI.cc [321] (ziL (x::l) (.fn (.func 587) [] [.bE [iD n]]) (λk=>!decide (k.kind=n)) (λk hk=>bN.nZ (by exact Ju n k) call587 rfl rfl) hlen) ?_;simp;exact⟨[(64,449)],by constructor<;>simp[aI,aJ]⟩
theorem zix (j:dW)(n:Int)(hj:xP j):C0 485 [.d (.bE (j6 j)),int n] (st (CW (j.doors n))):=by
 refine Ct.B func485 ?_;simp;refine CI.p (QN j n hj) ?_;simp;refine CI.p (Jt j n hj) ?_;simp;exact aA (by simp[dW.doors,dW.late,dW.off])
theorem zhy (j:dW)(k_:Key)(hj:xP j):C0 548 [st (aQ k_),.d (.bE [.bE (j6 j)])] (bool (!j.zX k_)):=by
 refine Ct.B func548 ?_;simp;refine CI.p (Og j.held k_ (by have:=hj.2.2.2;omega)) ?_;simp;refine bM (λh1=>?_) (λh1=>?_)<;>simp only[h1]<;>simp
 ·have e:(!j.zX k_)=true:=by simp[dW.zX,h1]
  rw[e];refine dr ?_;exact aA
 ·refine CI.p (zcs j.aP k_ hj.2.2.1) ?_;simp;have e:(!j.zX k_)=decide (0<(yK j.aP k_).length):=by simp[dW.zX,h1]
  rw[e];refine dr ?_;exact aA
theorem YC (j:dW)(n:Int)(hj:xP j):C0 487 [.d (.bE (j6 j)),int n] (st (CW (j.free n))):=by
 refine Ct.BS func487 mixed 1 400 ?_;simp;refine CI.s (tm:=[(1,int n),(2,.d (.bE [.bE (j6 j)])),(4,.ptr 64 0)]) (mm:=[(64,.cells [int 0,aB [],aB []] 441)]) (nx:=65) [(64,128)] [64] (by constructor<;>simp) ?_;refine CI.n ?_;simp;have e:(j.free n).gone=(qK j.gone n).filter λk=>!(!j.zX k):=by simp[dW.free]
 have e1:(j.free n).kind=n:=rfl;have e2:(j.free n).aD=[]:=rfl;have hlen:(qK j.gone n).length<=1000000:=dH (QT _ _) hj.2.1;rw[e,e1,e2];clear e e1 e2;rcases hG:j.gone with _|⟨x,l⟩
 ·have o1:(j.off n).gone=[]:=by simp[dW.off,qK,hG]
  have o2:(j.off n).kind=n:=rfl;have o3:(j.off n).aD=[]:=rfl;have o4:qK [] n=[]:=rfl;refine CI.p (Jt j n hj) ?_ (ha:=by simp[o1,o2,o3]);simp[o1,o2,o3];refine CI.p (ZH (.fn (.func 548) [] [.bE [.bE (j6 j)]])) ?_;simp;exact aA (by simp[o4])
 ·refine CI.cc [] (zeB j n x l hG hj) ?_;simp;refine CI.cc [193] (RU (qK j.gone n) (.fn (.func 548) [] [.bE [.bE (j6 j)]]) (λk=>!j.zX k) (λk _=>bN.nZ (by exact zhy j k hj) call548 rfl rfl) hlen) ?_;simp;exact aA (by simp[hG])
abbrev RF (f:FuncId)(j:List D):D:=.fn (.func f) [.bE j] []
noncomputable abbrev zdy (j:dW):List (List D):=[[lD [[iD 3],[iD 2],[iD 1]],RF 484 (j6 j)],[lD [[iD 0]],RF 485 (j6 j)],[lD [[iD 3],[iD 2],[iD 1]],RF 486 (j6 j)],[lD [[iD 1],[iD 2],[iD 3]],RF 487 (j6 j)]]
theorem zdx (j:dW):C0 390 [.d (.bE (j6 j))] (aB (zdy j)):=by
 refine Ct.B func390 ?_;simp;refine CI.WI [128,256,640] 99 400 rfl rfl (by first|exact .inl rfl|exact .inr ⟨_,_,rfl,by simp⟩|exact .inr ⟨_,_,rfl,by simp[*]⟩) (by simp) ?_;simp[BT,rI];exact aA
theorem zj2 (hv want:List aC)(held:List Key)(hh:cL hv)(hl:hv.length<=1000000)(hw:want.length<=100000)(ha:fA want):C0 389 [aB (hv.map aF),aB (want.map aF),aB (held.map aQ)] (.d (.bE (j6 (qV hv want held)))):=by
 refine Ct.B func389 ?_;simp;refine CI.p (ziD hv want hh hl (by omega)) ?_;simp;refine CI.p (VX want ha hw) ?_;simp;have hrl:(gW want).length<=100000:=dH (gJ _ _) hw;refine aH.V ((gW want)) (λk=>[(7,.ptr 64 0),(28,aB ((gW want).map aF)),(29,int (gW want).length),(30,int k.1)]) (λk=>[(64,.cells [aB ((iN hv want).map aF),aB ((kA hv want).map aQ),.own 65,aB (hv.map aF),aB (held.map aQ)] 600),(65,.map true [.int,.str] false (o8 (((gW want).take k.1).map aC.key)))]) 66 (λk hk1 B hB=>?_) (h0:=by constructor<;>simp[H9]);simp[H9];rcases bC hk1 with⟨x,hk,hx,hr,hm,ht,hd,hw,h⟩|rfl
 ·simp[h,hr,hw];refine CI.p (oK x) ?_;simp;refine dr ?_;exact hB hk (by constructor<;>simp[hw,ht])
 ·simp;exact aA (by simp[qV])
theorem ZA {j:dW}(hj:xP j)(n:Int):(j.early n).aD.length<=1000000/\(j.early n).gone.length<=1000000:=
 ⟨dH (gJ _ _) (dH (LA _ _) hj.1),by simp[dW.early]⟩
theorem X0 {j:dW}(hj:xP j)(n:Int):(j.late n).aD.length<=1000000/\(j.late n).gone.length<=1000000:=
 ⟨dH (LA _ _) hj.1,by simp[dW.late]⟩
theorem ziz {j:dW}(hj:xP j)(n:Int):(j.doors n).aD.length<=1000000/\(j.doors n).gone.length<=1000000:=
 ⟨dH (LA _ _) hj.1,dH (QT _ _) hj.2.1⟩
theorem YY {j:dW}(hj:xP j)(n:Int):(j.free n).aD.length<=1000000/\(j.free n).gone.length<=1000000:=
 ⟨by simp[dW.free],dH (gJ _ _) (dH (QT _ _) hj.2.1)⟩
theorem Kq (hv want:List aC)(held:List Key)(hh:cL hv)(hl:hv.length<=1000000)(hw:want.length<=100000)(ha:fA want)(hd:held.length<=1000000):C0 306 [aB (hv.map aF),aB (want.map aF),aB (held.map aQ)] (.aU [st (CW ((tB hv want held).getD ⟨0,[],[]⟩)),bool (tB hv want held).isSome]):=by
 refine Ct.DF func306 rfl mixed (by rw[ntmps306];simp) (CI.zaZ mixed (Plain.wH _ _ _ _ _) rfl (CI.run 99 400 rfl ?_));simp;refine CI.p (zj2 hv want held hh hl hw ha) ?_;simp;refine CI.p (zdx (qV hv want held)) ?_;simp;have hn:tB hv want held=(qV hv want held).steps.find? λs=>!s.none:=rfl;have hj:xP (qV hv want held):=⟨dH (RS _ _) (by omega),dH (RR _ _) hl,hl,hd⟩;rw[hn];clear hn;generalize qV hv want held=j at hj⊢;refine aH.un ?_;simp;refine aH.un ?_;simp;refine CI.ff (bN.bnd (args:=[int 3]) (first:=[.bE (j6 j)]) (by exact Y9 j 3 hj) call484 rfl rfl) rfl rfl rfl ?_;simp;refine CI.p (z6 (j.early 3) (ZA hj 3)) ?_;simp;refine bQ (λh1=>?_) (λh1=>?_)<;>simp only[h1]<;>simp
 ·have h1':(j.early 3).none=false:=by simpa using h1
  have e:(j.steps.find? λs=>!s.none)=some (j.early 3):=by simp[dW.steps,wZ,h1']
  exact aA (by simp[e])
 have h1':(j.early 3).none=true:=by simpa using h1
 refine aH.un ?_;simp;refine CI.ff (bN.bnd (args:=[int 2]) (first:=[.bE (j6 j)]) (by exact Y9 j 2 hj) call484 rfl rfl) rfl rfl rfl ?_;simp;refine CI.p (z6 (j.early 2) (ZA hj 2)) ?_;simp;refine bQ (λh2=>?_) (λh2=>?_)<;>simp only[h2]<;>simp
 ·have h2':(j.early 2).none=false:=by simpa using h2
  have e:(j.steps.find? λs=>!s.none)=some (j.early 2):=by simp[dW.steps,wZ,h1',h2']
  exact aA (by simp[e])
 have h2':(j.early 2).none=true:=by simpa using h2
 refine aH.un ?_;simp;refine CI.ff (bN.bnd (args:=[int 1]) (first:=[.bE (j6 j)]) (by exact Y9 j 1 hj) call484 rfl rfl) rfl rfl rfl ?_;simp;refine CI.p (z6 (j.early 1) (ZA hj 1)) ?_;simp;refine bQ (λh3=>?_) (λh3=>?_)<;>simp only[h3]<;>simp
 ·have h3':(j.early 1).none=false:=by simpa using h3
  have e:(j.steps.find? λs=>!s.none)=some (j.early 1):=by simp[dW.steps,wZ,h1',h2',h3']
  exact aA (by simp[e])
 have h3':(j.early 1).none=true:=by simpa using h3
 refine aH.un ?_;simp;refine aH.un ?_;simp;refine aH.un ?_;simp;refine CI.ff (bN.bnd (args:=[int 0]) (first:=[.bE (j6 j)]) (by exact zix j 0 hj) call485 rfl rfl) rfl rfl rfl ?_;simp;refine CI.p (z6 (j.doors 0) (ziz hj 0)) ?_;simp;refine bQ (λh4=>?_) (λh4=>?_)<;>simp only[h4]<;>simp
 ·have h4':(j.doors 0).none=false:=by simpa using h4
  have e:(j.steps.find? λs=>!s.none)=some (j.doors 0):=by simp[dW.steps,wZ,h1',h2',h3',h4']
  exact aA (by simp[e])
 have h4':(j.doors 0).none=true:=by simpa using h4
 refine aH.un ?_;simp;refine aH.un ?_;simp;refine aH.un ?_;simp;refine CI.ff (bN.bnd (args:=[int 3]) (first:=[.bE (j6 j)]) (by exact QN j 3 hj) call486 rfl rfl) rfl rfl rfl ?_;simp;refine CI.p (z6 (j.late 3) (X0 hj 3)) ?_;simp;refine bQ (λh5=>?_) (λh5=>?_)<;>simp only[h5]<;>simp
 ·have h5':(j.late 3).none=false:=by simpa using h5
  have e:(j.steps.find? λs=>!s.none)=some (j.late 3):=by simp[dW.steps,wZ,h1',h2',h3',h4',h5']
  exact aA (by simp[e])
 have h5':(j.late 3).none=true:=by simpa using h5
 refine aH.un ?_;simp;refine CI.ff (bN.bnd (args:=[int 2]) (first:=[.bE (j6 j)]) (by exact QN j 2 hj) call486 rfl rfl) rfl rfl rfl ?_;simp;refine CI.p (z6 (j.late 2) (X0 hj 2)) ?_;simp;refine bQ (λh6=>?_) (λh6=>?_)<;>simp only[h6]<;>simp
 ·have h6':(j.late 2).none=false:=by simpa using h6
  have e:(j.steps.find? λs=>!s.none)=some (j.late 2):=by simp[dW.steps,wZ,h1',h2',h3',h4',h5',h6']
  exact aA (by simp[e])
 have h6':(j.late 2).none=true:=by simpa using h6
 refine aH.un ?_;simp;refine CI.ff (bN.bnd (args:=[int 1]) (first:=[.bE (j6 j)]) (by exact QN j 1 hj) call486 rfl rfl) rfl rfl rfl ?_;simp;refine CI.p (z6 (j.late 1) (X0 hj 1)) ?_;simp;refine bQ (λh7=>?_) (λh7=>?_)<;>simp only[h7]<;>simp
 ·have h7':(j.late 1).none=false:=by simpa using h7
  have e:(j.steps.find? λs=>!s.none)=some (j.late 1):=by simp[dW.steps,wZ,h1',h2',h3',h4',h5',h6',h7']
  exact aA (by simp[e])
 have h7':(j.late 1).none=true:=by simpa using h7
 refine aH.un ?_;simp;refine aH.un ?_;simp;refine aH.un ?_;simp;refine CI.ff (bN.bnd (args:=[int 1]) (first:=[.bE (j6 j)]) (by exact YC j 1 hj) call487 rfl rfl) rfl rfl rfl ?_;simp;refine CI.p (z6 (j.free 1) (YY hj 1)) ?_;simp;refine bQ (λh8=>?_) (λh8=>?_)<;>simp only[h8]<;>simp
 ·have h8':(j.free 1).none=false:=by simpa using h8
  have e:(j.steps.find? λs=>!s.none)=some (j.free 1):=by simp[dW.steps,wZ,h1',h2',h3',h4',h5',h6',h7',h8']
  exact aA (by simp[e])
 have h8':(j.free 1).none=true:=by simpa using h8
 refine aH.un ?_;simp;refine CI.ff (bN.bnd (args:=[int 2]) (first:=[.bE (j6 j)]) (by exact YC j 2 hj) call487 rfl rfl) rfl rfl rfl ?_;simp;refine CI.p (z6 (j.free 2) (YY hj 2)) ?_;simp;refine bQ (λh9=>?_) (λh9=>?_)<;>simp only[h9]<;>simp
 ·have h9':(j.free 2).none=false:=by simpa using h9
  have e:(j.steps.find? λs=>!s.none)=some (j.free 2):=by simp[dW.steps,wZ,h1',h2',h3',h4',h5',h6',h7',h8',h9']
  exact aA (by simp[e])
 have h9':(j.free 2).none=true:=by simpa using h9
 refine aH.un ?_;simp;refine CI.ff (bN.bnd (args:=[int 3]) (first:=[.bE (j6 j)]) (by exact YC j 3 hj) call487 rfl rfl) rfl rfl rfl ?_;simp;refine CI.p (z6 (j.free 3) (YY hj 3)) ?_;simp;refine bQ (λh10=>?_) (λh10=>?_)<;>simp only[h10]<;>simp
 ·have h10':(j.free 3).none=false:=by simpa using h10
  have e:(j.steps.find? λs=>!s.none)=some (j.free 3):=by simp[dW.steps,wZ,h1',h2',h3',h4',h5',h6',h7',h8',h9',h10']
  exact aA (by simp[e])
 have h10':(j.free 3).none=true:=by simpa using h10
 refine aH.un ?_;simp;refine aH.un ?_;simp;have e:(j.steps.find? λs=>!s.none)=none:=by simp[dW.steps,wZ,h1',h2',h3',h4',h5',h6',h7',h8',h9',h10']
 exact aA (by simp[e])
attribute [simp] ntmps223 results223 ntmps159 results159
theorem zcP (s:cW)(p:aW)(hs:rP s)(hl:s.v.aP.length<=1000000)(hpl:p.bA.length<=1000000)(hx:idle (hZ s) p=false->fA (fE p)/\(fE p).length<=100000):C0 223 [st (iB s),st (eW p)] (.aU [st (iB (iL s p).1),aB ((iL s p).2.1.map cA),int (iL s p).2.2]):=by
 refine Ct.B func223 ?_;simp;refine CI.p (U2 s hs hl) ?_;simp;have hq0:=OA s;have hqo:=OB hs;have hh:iL s p=kJ (hZ s) p:=rfl;rw[hh];clear hh;generalize hZ s=q at hq0 hqo hx⊢;have S:=mQ.1 hq0;have b1:=S.hl;have b2:=S.dl;refine CI.p (DG p hpl) ?_;simp;refine bM (λh1=>?_) (λh1=>?_)<;>simp only[h1]<;>simp
 ·have hi:idle q p=true:=by
   have:q.oL=false:=by simpa using h1
   simp[idle,this]
  exact aA (by simp[kJ,hi])
 have h1':q.oL=true:=by simpa using h1
 refine bM (λh2=>?_) (λh2=>?_)<;>simp only[h2]<;>simp
 ·have hi:idle q p=true:=by simp[idle,h2]
  exact aA (by simp[kJ,hi,h2])
 refine bM (λh3=>?_) (λh3=>?_)<;>simp only[h3]<;>simp
 ·have h3':¬q.stuck=0:=by simpa using h3
  refine bQ (λh4=>?_) (λh4=>?_)<;>simp only[h4]<;>simp
  ·have h4':q.at_=kM p:=by simpa[kM]using h4
   have hi:idle q p=true:=by simp[idle,h3',h4']
   exact aA (by simp[kJ,hi,h2])
  have h4':¬q.at_=kM p:=by simpa[kM]using h4
  have hi:idle q p=false:=by simp[idle,h1',h2,h4']
  obtain⟨ha,hw⟩:=hx hi;refine CI.p (Kq q.v.aP (fE p) q.v.held hqo.v.aP (by omega) hw ha (by omega)) ?_ (ha:=by simp[fE]);simp[fE];rcases hn:tB q.v.aP (dQ (fN p)) q.v.held with _|x
  ·simp;exact aA (by simp[kJ,hi,h2,fE,hn])
  ·simp;refine CI.p (Kj q.out x.kind) ?_;simp;refine aX (λh5 zz=>?_) (λh5 zz=>?_)<;>simp only[zz]<;>simp
   ·exact aA (by simp[kJ,hi,h2,fE,hn,rB,h5])
   ·refine CI.p (Eb q.v (jT q x (Nonce.push q.out x.kind).2.1)) ?_ (ha:=by simp[jT,h2]);simp[jT,h2];refine dr ?_;exact aK (by simp[kJ,hi,h2,fE,hn,rB,h5,jT,rW])
 ·have h3':q.stuck=0:=by simpa using h3
  have hi:idle q p=false:=by simp[idle,h1',h2,h3']
  obtain⟨ha,hw⟩:=hx hi;refine CI.p (Kq q.v.aP (fE p) q.v.held hqo.v.aP (by omega) hw ha (by omega)) ?_ (ha:=by simp[fE]);simp[fE];rcases hn:tB q.v.aP (dQ (fN p)) q.v.held with _|x
  ·simp;exact aA (by simp[kJ,hi,h2,fE,hn])
  ·simp;refine CI.p (Kj q.out x.kind) ?_;simp;refine aX (λh5 zz=>?_) (λh5 zz=>?_)<;>simp only[zz]<;>simp
   ·exact aA (by simp[kJ,hi,h2,fE,hn,rB,h5])
   ·refine CI.p (Eb q.v (jT q x (Nonce.push q.out x.kind).2.1)) ?_ (ha:=by simp[jT,h2]);simp[jT,h2];refine dr ?_;exact aK (by simp[kJ,hi,h2,fE,hn,rB,h5,jT,rW])
theorem zO (s:cW)(hs:rP s)(hl:s.v.aP.length<=1000000):C0 159 [st (iB s)] (aB ((eO s).map cA)):=by
 refine Ct.B func159 ?_;simp;refine CI.p (U2 s hs hl) ?_;simp;refine bQ (λh1=>?_) (λh1=>?_)<;>simp only[h1]<;>simp
 ·have h1':(hZ s).v.open_=false:=by simpa using h1
  exact aA (by simp[eO,h1'])
 ·have h1':(hZ s).v.open_=true:=by simpa using h1
  exact aA (by simp[eO,h1'])
end Go.Proofs.YtobcmagefgdgdaaGreatDoor
