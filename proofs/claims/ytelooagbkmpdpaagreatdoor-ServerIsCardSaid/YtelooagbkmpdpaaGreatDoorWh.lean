/-
  LAYERS 6, 15, 20, walked
-/
import Derived.Test.YtelooagbkmpdpaaGreatDoorPt
import Derived.Test.YtelooagbkmpdpaaGreatDoorWf
set_option linter.unusedSimpArgs false
set_option linter.unusedVariables false
set_option maxRecDepth 100000
set_option maxHeartbeats 8000000
namespace Go.Proofs.YtelooagbkmpdpaaGreatDoor
open Go.AI Go.G
attribute [simp] Tryz.ntmps236 Tryz.results236
theorem XF (l:List aC)(hl:l.length<=100000):Ct Tryz.prog 236 [aD (l.map aF)] [] [] (.d (.mp true [.int,.str] false (mapM' (jT l) (lB l) l.length))) []:=by
 refine Ct.B Tryz.func236 ?_;simp;refine aJ.sR (y:=⟨iC (.own 64) (lD (l.map aF)) l.length 0,[(64,some (.map true [.int,.str] false λ_=>none))],65⟩) (λE a w hr=>Rel.sub (tm:=iC (.own 64) (lD (l.map aF)) l.length 0) (m:=[(64,.map true [.int,.str] false λ_=>none)]) (nx:=65) (g:=[(64,128)]) (gv:=[]) (by constructor<;>simp[iC]) hr) ?_;refine aJ.Ar rfl rfl (T:=86) (kv:=jT l) (add:=lB l) rfl rfl rfl rfl rfl ?_ ?_ ?_ ?_
 ·intro kk es clock keys i0 e0 B hk hes he hki hB;obtain⟨r,hr⟩:∃r,l[kk]? =some r:=⟨_,bL hk⟩;have hk':(kk:Int)<l.length:=by omega
  simp only[iC];have hg:l[kk]=r:=(cJ.1 hr).2;have hq:jT l kk=[.int .i64 r.key.kind,.string r.key.name]:=by simp[jT,hr,gC]
  refine CI.n ?_;simp[hk,hg];refine CI.p (fW r) ?_;simp;refine CI.p (uZ r) ?_;simp;obtain⟨ti,m1,m2,m3,m4⟩:=u4 D6;have cl:=Cl (kv:=jT l) (add:=lB l) (m:=33) (λj=>by simpa[lB]using nV _) kk (jT l kk);have ca:=Cm (kv:=jT l) (add:=lB l) (m:=2) (λj=>by simp[lB]) kk (jT l kk);have cs:=vI (jT l) (lB l) kk (jT l kk);have ha:lB l kk=(bJ r).map aK:=by simp[lB,hr]
  rw[bA rfl,ha]at cs;have r33:=nV r;refine CI.op ⟨.bC [.own 4,.d (.v (.int .i64 (e0.born:Int)))],[],[(3,some (.cL es clock (some (i0,4))))]⟩ rfl (.inl rfl) ((WA (kc:=[.int .i64 r.key.kind,.string r.key.name]) rfl m1 m2 m4 hes rfl rfl rfl rfl he (by rw[hki,hq]) rfl).kL rfl) ?_;refine CI.nC 99 400 rfl ?_;simp;refine⟨⟨ca,by omega⟩,?_⟩;refine CI.op ⟨.d (.v undef),[],[(3,some (.cL es clock (some (i0,1024))))]⟩ rfl (.inl rfl) ((JX rfl hes.apart he rfl (.inr rfl) rfl rfl rfl rfl).kL rfl) ?_;refine CI.nC 99 400 rfl ?_;simp;refine⟨by decide+kernel,?_⟩;have wk:IntKind.wrap .i64 ((kk:Int)+1)=((kk+1:Nat):Int):=by rw[wrap_i64 (by omega) (by omega)];omega
  refine hB _ [(65,1024)] [] ?_;rw[cs];constructor<;>simp[iC,wk]
 ·intro kk es clock keys B hk hes hno hc hB;obtain⟨r,hr⟩:∃r,l[kk]? =some r:=⟨_,bL hk⟩;have hk':(kk:Int)<l.length:=by omega
  simp only[iC];have hg:l[kk]=r:=(cJ.1 hr).2;have hq:jT l kk=[.int .i64 r.key.kind,.string r.key.name]:=by simp[jT,hr,gC]
  refine CI.n ?_;simp[hk,hg];refine CI.p (fW r) ?_;simp;refine CI.p (uZ r) ?_;simp;obtain⟨ti,m1,m2,m3,m4⟩:=u4 D6;have ha:lB l kk=(bJ r).map aK:=by simp[lB,hr]
  have r33:=nV r;have hap:∀(i j:Nat) e e',(es.push ⟨mk true [.int .i64 r.key.kind,.string r.key.name],.slice none 0 0,clock⟩)[i]? =some e->(es.push ⟨mk true [.int .i64 r.key.kind,.string r.key.name],.slice none 0 0,clock⟩)[j]? =some e'->e.born=e'.born->i=j:=hes.UI _ rfl;refine CI.op ⟨.bC [.d (.v (.slice none 0 0)),.d (.v (.int .i64 (clock:Int)))],[],[(3,some (.cL (es.push ⟨mk true [.int .i64 r.key.kind,.string r.key.name],.slice none 0 0,clock⟩) (clock+1) none))]⟩ rfl (.inl rfl) ((V9 (kc:=[.int .i64 r.key.kind,.string r.key.name]) rfl m1 m2 m3 rfl m4 hes rfl rfl rfl rfl (λi hi=>by rw[<-hq];exact hno i hi) rfl).kL rfl) ?_;refine CI.nC 99 400 rfl ?_;simp;refine⟨by omega,?_⟩;refine CI.op ⟨.d (.v undef),[],[(3,some (.cL (es.push ⟨mk true [.int .i64 r.key.kind,.string r.key.name],.slice none 0 0,clock⟩) (clock+1) (some (es.size,1024))))]⟩ rfl (.inl rfl) ((JX (e0:=⟨mk true [.int .i64 r.key.kind,.string r.key.name],.slice none 0 0,clock⟩) rfl hap (by simp) rfl (.inl rfl) rfl rfl rfl rfl).kL rfl) ?_;refine CI.nC 99 400 rfl ?_;simp;refine⟨by decide+kernel,?_⟩;have wk:IntKind.wrap .i64 ((kk:Int)+1)=((kk+1:Nat):Int):=by rw[wrap_i64 (by omega) (by omega)];omega
  refine hB _ [(65,1024)] [] ?_;rw[ha,hq];constructor<;>simp[iC,wk]
 ·intro kk;simp[dJ,gC,CK.fits]
 ·simp only[iC];refine CI.n ?_;simp;first|exact aA (by simp) rfl|exact aB (by simp)
noncomputable abbrev tD (S:List Key):D:=.mp true [.int,.str] false (gB S)
noncomputable abbrev KJ (l:List aC):D:=.mp true [.int,.str] false (mapM' (jT l) (lB l) l.length)
noncomputable abbrev uN (l:List aC):List (Nat×aN):=[(0,.cells [.d (tD (l.map aC.key))] 245),(1,.cells [.own 4] 245),(2,.cells [.d (KJ l)] 290),(3,.cells [.fn (.func 237) [] [.ptr 0 0,.ptr 1 0,.ptr 2 0,.ptr 3 0]] 292)]
theorem PW (l:List aC)(hl:l.length<=100000):∀(n:Nat) (out:List Key) (k_:Key),jS l out<n->
  Ct Tryz.prog 237 [st (aK k_),.ptr 0 0,.ptr 1 0,.ptr 2 0,.ptr 3 0] (uN l)
   [(4,.map true [.int,.str] false (gB out))] (.bC []) [(4,.map true [.int,.str] false (gB (dS l n out k_)))]:=by
 intro n;induction n with
 |zero=>intro out k_ h;omega
 |succ n ih=>
  intro out k_ hlt;refine Ct.rZ Tryz.func237 rfl mixed (by rw[Tryz.ntmps237];simp) (CI.run 99 400 rfl ?_);simp[Tryz.ntmps237,Tryz.results237];by_cases hn:k_∈l.map aC.key
  ·by_cases ho:k_∈out
   ·have e:dS l (n+1) out k_=out:=by simp[dS,hn,ho]
    have e1:=oS hn;have e2:=oS ho;simp[e1,e2];first| (refine⟨[],?_,?_,?_,?_,?_,?_,?_⟩<;>simp[bF,bI,e];done)| (refine⟨by decide+kernel,?_⟩;refine⟨[],?_,?_,?_,?_,?_,?_,?_⟩<;>simp[bF,bI,e])
   ·have e:dS l (n+1) out k_=(fF l k_).foldl (dS l n) (out++[k_]):=by simp only[dS,bA hn,aR ho]
    have hlt2:=AJ hn ho;have h33:(fF l k_).length<=3300000:=by
     have h1:=QF l k_ nV;omega
    have e1:=oS hn;have e2:=qW ho;have e3:=X0 hn;simp[e1,e2,e3];refine aJ.V (fF l k_) (λk=>[(1,.ptr 0 0),(2,.ptr 1 0),(3,.ptr 2 0),(4,.ptr 3 0),(21,aD ((fF l k_).map aK)),(22,int (fF l k_).length),(23,int k.1)]) (λk=>uN l++[(4,.map true [.int,.str] false (gB (((fF l k_).take k.1).foldl (dS l n) (out++[k_]))))]) 64 (λk hk1 B hB=>?_);simp;refine aE (λh=>?_) (λh=>?_)
    ·have hk:k<(fF l k_).length:=by simpa using h
     obtain⟨x,hx,hr,hm,ht,hd,hw⟩:=bB hk;simp only[h];simp[hr,hw];have h5:jS l (((fF l k_).take k).foldl (dS l n) (out++[k_]))<n:=by
      have:=wY (l:=l) (λy hy=>oX (sT l n) ((fF l k_).take k) (out++[k_]) y hy);omega
     refine CI.cc [0,1,2,3,4] (ih (((fF l k_).take k).foldl (dS l n) (out++[k_])) x h5) ?_ (ha:=by simp[uN]) (hk:=by simp[uN]);simp[uN];exact hB hk (by constructor<;>simp[hw,ht,uN,mY])
    ·obtain rfl:k=(fF l k_).length:=by simp at h;omega
     simp only[h];simp;rw[<-e];first| (refine⟨[],?_,?_,?_,?_,?_,?_,?_⟩<;>simp[bF,bI];done)| (refine⟨by decide+kernel,?_⟩;refine⟨[],?_,?_,?_,?_,?_,?_,?_⟩<;>simp[bF,bI])
  ·have e:dS l (n+1) out k_=out:=by unfold dS;rw[aR hn]
   have e1:=qW hn;simp[e1];first| (refine⟨[],?_,?_,?_,?_,?_,?_,?_⟩<;>simp[bF,bI,e];done)| (refine⟨by decide+kernel,?_⟩;refine⟨[],?_,?_,?_,?_,?_,?_,?_⟩<;>simp[bF,bI,e])
attribute [simp] Tryz.ntmps188 Tryz.results188
theorem T3 (l:List aC)(hl:l.length<=100000):Ct Tryz.prog 188 [aD (l.map aF)] [] [] (.d (tD (oP l))) []:=by
 refine Ct.B Tryz.func188 ?_;simp;refine CI.p (zP l (by omega)) ?_;simp;refine CI.p (XF l hl) ?_;simp;have rootsR_nil:iJ []=[]:=rfl;refine aJ.V (l) (λk=>[(3,.ptr 64 0),(4,.ptr 66 0),(5,.ptr 65 0),(6,.ptr 67 0),(15,aD (l.map aF)),(16,int l.length),(17,int k.1)]) (λk=>[(64,.cells [.d (tD (l.map aC.key))] 245),(65,.cells [.own 68] 245),(66,.cells [.d (KJ l)] 290),(67,.cells [.fn (.func 237) [] [.ptr 64 0,.ptr 65 0,.ptr 66 0,.ptr 67 0]] 292),(68,.map true [.int,.str] false (gB ((iJ (l.take k.1)).foldl (dS l (l.length+1)) [])))]) 69 (λk hk1 B hB=>?_) (h0:=by constructor<;>simp[r4,rootsR_nil]);simp[r4,rootsR_nil];refine aE (λh=>?_) (λh=>?_)
 ·have hk:k<(l).length:=by simpa using h
  obtain⟨x,hx,hr,hm,ht,hd,hw⟩:=bB hk;simp only[h];simp[hr,hw];refine aE (λh0=>?_) (λh0=>?_)<;>simp only[h0]<;>simp<;>(try simp only[nT,nF,dT,dF]at h0)
  ·have h5:=AK l ((iJ (l.take k)).foldl (dS l (l.length+1)) []);refine CI.p (fW x) ?_;simp;refine CI.cc [64,65,66,67,68] (PW l hl (l.length+1) ((iJ (l.take k)).foldl (dS l (l.length+1)) []) x.key (by omega)) ?_;simp;refine⟨by decide+kernel,?_⟩;exact hB hk (by constructor<;>simp[hw,ht,uY,h0,mY])
  ·exact hB hk (by constructor<;>simp[hw,ht,uY,h0])
 ·obtain rfl:k=(l).length:=by simp at h;omega
  simp only[h];simp;first|exact aA (by simp[oP]) rfl|exact aB (by simp[oP])
attribute [simp] Tryz.ntmps190 Tryz.results190
theorem UC (S:List Key)(r:aC):Ct Tryz.prog 190 [st (aF r),.d (.aT [tD S])] [] [] (bool (!decide (r.key∈S))) []:=by
 refine Ct.B Tryz.func190 ?_;simp;by_cases h:r.key∈S
 ·have e1:=oS h;refine CI.p (fW r) ?_ (ha:=by simp[e1]);simp[e1];refine⟨by decide+kernel,?_⟩;first|exact aA (by simp[h]) rfl|exact aB (by simp[h])
 ·have e1:=qW h;refine CI.p (fW r) ?_ (ha:=by simp[e1]);simp[e1];refine⟨by decide+kernel,?_⟩;first|exact aA (by simp[h]) rfl|exact aB (by simp[h])
attribute [simp] Tryz.ntmps140 Tryz.results140
theorem UA (l:List aC)(hl:l.length<=100000):Ct Tryz.prog 140 [aD (l.map aF)] [] [] (aD ((jA l).map aF)) []:=by
 refine Ct.BS Tryz.func140 mixed 2 400 ?_;simp;refine CI.pS (T3 l hl) Tryz.call188 2 ?_;simp;refine CI.s (tm:=[(0,aD (l.map aF)),(3,.d (.aT [tD (oP l)]))]) (mm:=[]) (nx:=65) [] [256] (by constructor<;>simp) ?_;refine CI.n ?_;simp;obtain⟨S,hS⟩:∃S,oP l=S:=⟨_,rfl⟩;have e:jA l=l.filter λr=>!(!decide (r.key∈S)):=by simp[jA,hS]
 rw[hS,e];clear e hS;cases l with
 |nil=>
  refine CI.p BO ?_;simp;refine CI.p (BI (.fn (.func 190) [] [.aT [tD S]])) ?_;simp;first|exact aA (by simp) rfl|exact aB (by simp)
 |cons x l=>
  refine CI.cc [] (BN x l (by simp at hl;omega)) ?_;simp;refine CI.cc [129] (BJ (x::l) (.fn (.func 190) [] [.aT [tD S]]) (λr=>!decide (r.key∈S)) (λr hr=>bP.j2 (by exact UC S r) Tryz.call190 rfl rfl) (by omega)) ?_;simp;first|exact aA (by simp) rfl|exact aB (by simp)
noncomputable abbrev e6 (j:bW):List D:=[lD (j.aL.map aF),lD (j.gone.map aK),nZ j.reach,lD (j.aI.map aF),lD (j.held.map aK)]
abbrev n1 (j:bW):Prop:=j.aL.length<=1000000/\j.gone.length<=1000000/\j.aI.length<=1000000/\j.held.length<=1000000
attribute [simp] Tryz.ntmps184 Tryz.results184
theorem Aq (l:List aC)(kf:D)(p:aC->Bool)(hf:∀x∈l,bP Tryz.prog (.d kf) [st (aF x)] (bool (p x)))(hl:l.length<=1000000):Ct Tryz.prog 184 [aD (l.map aF),.d kf] [] [] (.own 64) [(64,.grow 7 ((l.filter p).map aF) 82)]:=by
 refine Ct.B Tryz.func184 ?_;simp;refine aJ.gK 5 7 82 rfl ?_;refine aJ.V (l) (λk=>[(0,aD (l.map aF)),(1,.d kf),(5,.own 64),(8,aD (l.map aF)),(9,int l.length),(10,int k.1)]) (λk=>[(64,.grow 7 (((l.take k.1).filter p).map aF) 82)]) 65 (λk hk1 B hB=>?_);simp;refine aE (λh=>?_) (λh=>?_)
 ·have hk:k<(l).length:=by simpa using h
  obtain⟨x,hx,hr,hm,ht,hd,hw⟩:=bB hk;simp only[h];simp[hr,hw];have hlen:((l.take k).filter p).length<=1000000:=cD (eE _ _) (by simp;omega);refine CI.ff (hf x hm) rfl rfl rfl ?_;simp;refine aE (λh1=>?_) (λh1=>?_)<;>simp only[h1]<;>simp[hr]<;>(try simp only[nT,nF,dT,dF]at h1)
  ·refine⟨by omega,?_⟩;exact hB hk (by constructor<;>simp[hw,ht,jM,h1])
  ·exact hB hk (by constructor<;>simp[hw,ht,jM,h1])
 ·obtain rfl:k=(l).length:=by simp at h;omega
  simp only[h];simp;first| (refine⟨[(64,64)],?_,?_,?_,?_,?_,?_,?_⟩<;>simp[bF,bI];done)| (refine⟨by decide+kernel,?_⟩;refine⟨[(64,64)],?_,?_,?_,?_,?_,?_,?_⟩<;>simp[bF,bI])
attribute [simp] Tryz.ntmps191 Tryz.results191
theorem YL (l:List aC)(n:Int)(hl:l.length<=1000000):Ct Tryz.prog 191 [aD (l.map aF),int n] [] [] (.own 64) [(64,.grow 7 ((k8 l n).map aF) 82)]:=by
 refine Ct.BS Tryz.func191 mixed 1 400 ?_;simp;refine CI.s (tm:=[(0,aD (l.map aF)),(3,.d (.aT [iD n]))]) (mm:=[]) (nx:=65) [] [64] (by constructor<;>simp) ?_;refine CI.n ?_;simp;refine CI.cc [] (Aq l (.fn (.func 238) [] [.aT [iD n]]) (λr=>decide (r.kind=n)) (λr hr=>bP.j2 (by exact LN r n) Tryz.call238 rfl rfl) hl) ?_;simp;first| (refine⟨[(64,193)],?_,?_,?_,?_,?_,?_,?_⟩<;>simp[bF,bI,k8];done)| (refine⟨by decide+kernel,?_⟩;refine⟨[(64,193)],?_,?_,?_,?_,?_,?_,?_⟩<;>simp[bF,bI,k8])
attribute [simp] Tryz.ntmps239 Tryz.results239
theorem Da :Ct Tryz.prog 239 [aD []] [] [] (aD []) []:=by
 refine Ct.B Tryz.func239 ?_;simp;refine⟨?_,?_⟩
 ·first|exact aA (by simp) rfl|exact aB (by simp)
 ·first|exact aA (by simp) rfl|exact aB (by simp)
theorem N0 (x:Key)(l:List Key)(hl:l.length<=1000000):Ct Tryz.prog 239 [aD ((x::l).map aK)] [] [] (.own 64) [(64,.grow 2 ((x::l).map aK) 86)]:=by
 refine Ct.B Tryz.func239 ?_;simp;refine⟨by omega,?_⟩;first| (refine⟨[(64,384)],?_,?_,?_,?_,?_,?_,?_⟩<;>simp[bF,bI];done)| (refine⟨by decide+kernel,?_⟩;refine⟨[(64,384)],?_,?_,?_,?_,?_,?_,?_⟩<;>simp[bF,bI])
attribute [simp] Tryz.ntmps92 Tryz.results92
theorem pY (s:Step)(h:s.aL.length<=1000000/\s.gone.length<=1000000):Ct Tryz.prog 92 [st (rT s)] [] [] (bool s.none) []:=by
 refine Ct.B Tryz.func92 ?_;simp;obtain⟨h1,h2⟩:=h;have w:IntKind.wrap .i64 ((s.aL.length:Int)+s.gone.length)=s.aL.length+s.gone.length:=wrap_i64 (by omega) (by omega);have e:decide ((s.aL.length:Int)+s.gone.length=0)=s.none:=by unfold Step.none;exact CA.2 (by omega)
 simp[w];rw[e];first|exact aA (by simp) rfl|exact aB (by simp)
attribute [simp] Tryz.ntmps192 Tryz.results192
theorem Bt (j:bW)(r:aC):Ct Tryz.prog 192 [st (aF r),.d (.aT [.aT (e6 j)])] [] [] (bool (!decide (r.key∈j.reach))) []:=by
 refine Ct.B Tryz.func192 ?_;simp;by_cases h:r.key∈j.reach
 ·have e1:=oS h;refine CI.p (fW r) ?_ (ha:=by simp[e1]);simp[e1];refine⟨by decide+kernel,?_⟩;first|exact aA (by simp[h]) rfl|exact aB (by simp[h])
 ·have e1:=qW h;refine CI.p (fW r) ?_ (ha:=by simp[e1]);simp[e1];refine⟨by decide+kernel,?_⟩;first|exact aA (by simp[h]) rfl|exact aB (by simp[h])
attribute [simp] Tryz.ntmps142 Tryz.results142
theorem FO (j:bW)(n:Int)(hj:n1 j):Ct Tryz.prog 142 [.d (.aT (e6 j)),int n] [] [] (st (rT (j.early n))) []:=by
 refine Ct.BS Tryz.func142 mixed 1 400 ?_;simp;refine CI.s (tm:=[(1,int n),(2,.d (.aT [.aT (e6 j)])),(4,.ptr 64 0)]) (mm:=[(64,.cells [int 0,aD [],aD []] 102)]) (nx:=65) [(64,128)] [64] (by constructor<;>simp) ?_;refine CI.n ?_;simp;obtain⟨K,hK⟩:∃K,k8 j.aL n=K:=⟨_,rfl⟩;have hlen:K.length<=1000000:=by rw[<-hK];exact cD (w9 _ _) hj.1
 have e:(j.early n).aL=K.filter λr=>!(!decide (r.key∈j.reach)):=by simp[bW.early,hK]
 have e1:(j.early n).kind=n:=rfl;have e2:(j.early n).gone=[]:=rfl;refine CI.cc [] (YL j.aL n hj.1) ?_;simp;rw[hK,e,e1,e2];clear e e1 e2 hK;cases K with
 |nil=>
  refine CI.g [385] [] (BI (.fn (.func 192) [] [.aT [.aT (e6 j)]])) ?_;simp;first|exact aA (by simp) rfl|exact aB (by simp)
 |cons x l=>
  refine CI.cc [385] (BJ (x::l) (.fn (.func 192) [] [.aT [.aT (e6 j)]]) (λr=>!decide (r.key∈j.reach)) (λr hr=>bP.j2 (by exact Bt j r) Tryz.call192 rfl rfl) hlen) ?_;simp;first|exact aA (by simp) rfl|exact aB (by simp)
attribute [simp] Tryz.ntmps144 Tryz.results144
theorem AM (j:bW)(n:Int)(hj:n1 j):Ct Tryz.prog 144 [.d (.aT (e6 j)),int n] [] [] (st (rT (j.late n))) []:=by
 refine Ct.B Tryz.func144 ?_;simp;refine CI.p (LL j.aL n hj.1) ?_;simp;first|exact aA (by simp[bW.late,k8]) rfl|exact aB (by simp[bW.late,k8])
attribute [simp] Tryz.ntmps240 Tryz.results240
theorem J8 (n:Int)(k_:Key):Ct Tryz.prog 240 [st (aK k_),.d (.aT [iD n])] [] [] (bool (!decide (k_.kind=n))) []:=by
 refine Ct.B Tryz.func240 ?_;simp;first|exact aA (by simp) rfl|exact aB (by simp)
attribute [simp] Tryz.ntmps186 Tryz.results186
theorem Cj (l:List Key)(kf:D)(p:Key->Bool)(hf:∀x∈l,bP Tryz.prog (.d kf) [st (aK x)] (bool (p x)))(hl:l.length<=1000000)(h1:fC p l= -1):Ct Tryz.prog 186 [.own 0,.d kf] [] [(0,.grow 2 (l.map aK) 86)] (.own 0) [(0,.grow 2 (l.map aK) 86)]:=by
 refine Ct.B Tryz.func186 ?_;simp;refine CI.cc [0] (EZ l kf p hf (by omega)) ?_;simp;simp[h1];first| (refine⟨[],?_,?_,?_,?_,?_,?_,?_⟩<;>simp[bF,bI];done)| (refine⟨by decide+kernel,?_⟩;refine⟨[],?_,?_,?_,?_,?_,?_,?_⟩<;>simp[bF,bI])
theorem Ci (l:List Key)(kf:D)(p:Key->Bool)(hf:∀x∈l,bP Tryz.prog (.d kf) [st (aK x)] (bool (p x)))(hl:l.length<=1000000)(i:Nat)(x:Key)(h1:fC p l=i)(h2:i<l.length):Ct Tryz.prog 186 [.own 0,.d kf] [] [(0,.grow 2 (l.map aK) 86)] (.sl 0 2 0 (l.filter λx=>!p x).length) [(0,.grow 2 ((l.filter λx=>!p x).map aK++List.replicate (l.length-(l.filter λx=>!p x).length) [iD 0,sD ⟨#[]⟩]) 86)]:=by
 refine Ct.B Tryz.func186 ?_;simp;refine CI.cc [0] (EZ l kf p hf (by omega)) ?_;simp;have hne:¬(i:Int)= -1:=by omega
 have hwi:IntKind.wrap .i64 ((i:Int)+1)=i+1:=wrap_i64 (by omega) (by omega);simp[h1,hne,hwi];have d0:=kX.start (x:=x) h1 h2;refine aJ.inv mixed rfl (ι:={q:Nat×Nat×List Key//kX p l q.1 q.2.1 q.2.2}) (λk=>[(0,.own 0),(1,.d kf),(5,int k.1.2.1),(6,int k.1.1)]) (λk=>[(0,.grow 2 (k.1.2.2.map aK) 86)]) 64 (λk=>l.length-k.1.1) ⟨(i+1,i,l),d0⟩ [] (by constructor<;>simp) ?_;rintro⟨⟨j,i,cur⟩,hd⟩ B hB;clear h1 h2 hne hwi d0;have hlen:=hd.len;have hlt:=hd.lt;have hle:=hd.le;simp only at hlen hlt hle;have w1:IntKind.wrap .i64 ((j:Int)+1)=j+1:=wrap_i64 (by omega) (by omega);have w2:IntKind.wrap .i64 ((i:Int)+1)=i+1:=wrap_i64 (by omega) (by omega);refine CI.n ?_;simp[hlen];refine aE (λh=>?_) (λh=>?_)<;>simp only[h]<;>simp<;>(try simp only[nT,nF,dT,dF]at h)
 ·have hj:j<l.length:=by omega
  have hv:l[j]? =some l[j]:=bL hj;have hm:l[j]∈l:=mD hj;generalize l[j]=v at hv hm;have hg:=hd.get hv;have hjc:j<cur.length:=by omega
  have hgx:cur[j]=v:=by rw[bL hjc]at hg;exact kJ hg
  simp[hjc,hgx];refine CI.ff (hf v hm) rfl rfl rfl ?_;simp;have hic:i<cur.length:=by omega
  refine aE (λh2=>?_) (λh2=>?_)<;>simp only[h2]<;>simp[hic]
  ·have hp:p v=false:=by simpa using h2
   refine hB _ ⟨(j+1,i+1,cur.set i v),hd.jW hv hp⟩ [] ?_ (by simp;omega);constructor<;>simp[w1,w2,List.map_set]
  ·have hp:p v=true:=by simpa using h2
   refine hB _ ⟨(j+1,i,cur),hd.del hv hp⟩ [] ?_ (by simp;omega);constructor<;>simp[w1]
 ·have hj:j=l.length:=by omega
  subst hj;have e:cur.take i=l.filter (λx=>!p x):=hd.done;simp[hlen];have e2:List.take i (List.map aK cur)=List.map aK (List.filter (λx=>!p x) l):=by rw[<-sL,e]
  have e3:(List.filter (λx=>!p x) l).length=i:=by rw[<-e,sN];omega
  refine⟨by omega,by omega,by omega,?_⟩;have e4:List.drop (i+(l.length-i)) (List.map aK cur)=[]:=by rw[List.drop_eq_nil_iff];simp;omega
  rw[e2,e3,e4];first| (refine⟨[],?_,?_,?_,?_,?_,?_,?_⟩<;>simp[bF,bI];done)| (refine⟨by decide+kernel,?_⟩;refine⟨[],?_,?_,?_,?_,?_,?_,?_⟩<;>simp[bF,bI])
theorem Ch (l:List Key)(kf:D)(p:Key->Bool)(hf:∀x∈l,bP Tryz.prog (.d kf) [st (aK x)] (bool (p x)))(hl:l.length<=1000000):Ct Tryz.prog 186 [.own 0,.d kf] [] [(0,.grow 2 (l.map aK) 86)] (.own 64) [(64,.grow 2 ((l.filter λx=>!p x).map aK) 86)]:=by
 rcases BB p l with⟨h1,h2⟩|⟨i,x,h1,h2,h3,h4⟩
 ·have e:(l.filter λx=>!p x)=l:=by
   rw[List.filter_eq_self];intro a ha;have:=CG.1 h2 a ha;simpa using this
  have:=Ct.G0 (Or.inl ⟨rfl,rfl⟩) (aY _) (Cj l kf p hf hl h1);rw[bK]at this;rw[e];exact this
 ·have:=Ct.G0 (Or.inr rfl) (by simp) (Ci l kf p hf hl i x h1 h2);rw[List.take_left' (by simp)]at this;exact this
attribute [simp] Tryz.ntmps193 Tryz.results193
theorem J7 (j:bW)(n:Int)(hj:n1 j):Ct Tryz.prog 193 [.d (.aT (e6 j)),int n] [] [] (st (rT (j.off n))) []:=by
 refine Ct.BS Tryz.func193 mixed 1 400 ?_;simp;refine CI.s (tm:=[(0,.d (.aT (e6 j))),(3,.d (.aT [iD n])),(4,.ptr 64 0)]) (mm:=[(64,.cells [int 0,aD [],aD []] 102)]) (nx:=65) [(64,128)] [64] (by constructor<;>simp) ?_;refine CI.n ?_;simp;have e:(j.off n).gone=j.gone.filter λk=>!(!decide (k.kind=n)):=by simp[bW.off,lN]
 have e1:(j.off n).kind=n:=rfl;have e2:(j.off n).aL=[]:=rfl;have hlen:=hj.2.1;rw[e,e1,e2];clear e e1 e2;generalize j.gone=G at hlen⊢;cases G with
 |nil=>
  refine CI.p Da ?_;simp;refine CI.p (NQ (.fn (.func 240) [] [.aT [iD n]])) ?_;simp;first|exact aA (by simp) rfl|exact aB (by simp)
 |cons x l=>
  refine CI.cc [] (N0 x l (by simp at hlen;omega)) ?_;simp;refine CI.cc [321] (FU (x::l) (.fn (.func 240) [] [.aT [iD n]]) (λk=>!decide (k.kind=n)) (λk hk=>bP.j2 (by exact J8 n k) Tryz.call240 rfl rfl) hlen) ?_;simp;first|exact aA (by simp) rfl|exact aB (by simp)
theorem WN (j:bW)(n:Int)(x:Key)(l:List Key)(hg:j.gone=x::l)(hj:n1 j):Ct Tryz.prog 193 [.d (.aT (e6 j)),int n] [] [] (.agg [int n,aD [],.own 64]) [(64,.grow 2 ((lN j.gone n).map aK) 86)]:=by
 refine Ct.BS Tryz.func193 mixed 1 400 ?_;simp;refine CI.s (tm:=[(0,.d (.aT (e6 j))),(3,.d (.aT [iD n])),(4,.ptr 64 0)]) (mm:=[(64,.cells [int 0,aD [],aD []] 102)]) (nx:=65) [(64,128)] [64] (by constructor<;>simp) ?_;refine CI.n ?_;simp;have e:lN j.gone n=j.gone.filter λk=>!(!decide (k.kind=n)):=by simp[lN]
 have hlen:=hj.2.1;rw[e,hg];rw[hg]at hlen;clear e;refine CI.cc [] (N0 x l (by simp at hlen;omega)) ?_;simp;refine CI.cc [321] (Ch (x::l) (.fn (.func 240) [] [.aT [iD n]]) (λk=>!decide (k.kind=n)) (λk hk=>bP.j2 (by exact J8 n k) Tryz.call240 rfl rfl) hlen) ?_;simp;first| (refine⟨[(64,449)],?_,?_,?_,?_,?_,?_,?_⟩<;>simp[bF,bI];done)| (refine⟨by decide+kernel,?_⟩;refine⟨[(64,449)],?_,?_,?_,?_,?_,?_,?_⟩<;>simp[bF,bI])
attribute [simp] Tryz.ntmps143 Tryz.results143
theorem Bz (j:bW)(n:Int)(hj:n1 j):Ct Tryz.prog 143 [.d (.aT (e6 j)),int n] [] [] (st (rT (j.doors n))) []:=by
 refine Ct.B Tryz.func143 ?_;simp;refine CI.p (AM j n hj) ?_;simp;refine CI.p (J7 j n hj) ?_;simp;first|exact aA (by simp[bW.doors,bW.late,bW.off]) rfl|exact aB (by simp[bW.doors,bW.late,bW.off])
attribute [simp] Tryz.ntmps194 Tryz.results194
theorem Z8 (j:bW)(k_:Key)(hj:n1 j):Ct Tryz.prog 194 [st (aK k_),.d (.aT [.aT (e6 j)])] [] [] (bool (!j.rA k_)) []:=by
 refine Ct.B Tryz.func194 ?_;simp;refine CI.p (L8 j.held k_ (by have:=hj.2.2.2;omega)) ?_;simp;refine aM (λh1=>?_) (λh1=>?_)<;>simp only[h1]<;>simp
 ·have e:(!j.rA k_)=true:=by simp[bW.rA,h1]
  rw[e];refine⟨by decide+kernel,?_⟩;first|exact aA (by simp) rfl|exact aB (by simp)
 ·refine CI.p (TY j.aI k_ hj.2.2.1) ?_;simp;have e:(!j.rA k_)=decide (0<(qO j.aI k_).length):=by simp[bW.rA,h1]
  rw[e];refine⟨by decide+kernel,?_⟩;first|exact aA (by simp) rfl|exact aB (by simp)
attribute [simp] Tryz.ntmps145 Tryz.results145
theorem ES (j:bW)(n:Int)(hj:n1 j):Ct Tryz.prog 145 [.d (.aT (e6 j)),int n] [] [] (st (rT (j.free n))) []:=by
 refine Ct.BS Tryz.func145 mixed 1 400 ?_;simp;refine CI.s (tm:=[(1,int n),(2,.d (.aT [.aT (e6 j)])),(4,.ptr 64 0)]) (mm:=[(64,.cells [int 0,aD [],aD []] 102)]) (nx:=65) [(64,128)] [64] (by constructor<;>simp) ?_;refine CI.n ?_;simp;have e:(j.free n).gone=(lN j.gone n).filter λk=>!(!j.rA k):=by simp[bW.free]
 have e1:(j.free n).kind=n:=rfl;have e2:(j.free n).aL=[]:=rfl;have hlen:(lN j.gone n).length<=1000000:=cD (AP _ _) hj.2.1;rw[e,e1,e2];clear e e1 e2;rcases hG:j.gone with _|⟨x,l⟩
 ·have o1:(j.off n).gone=[]:=by simp[bW.off,lN,hG]
  have o2:(j.off n).kind=n:=rfl;have o3:(j.off n).aL=[]:=rfl;have o4:lN [] n=[]:=rfl;refine CI.p (J7 j n hj) ?_ (ha:=by simp[o1,o2,o3]);simp[o1,o2,o3];refine CI.p (NQ (.fn (.func 194) [] [.aT [.aT (e6 j)]])) ?_;simp;first|exact aA (by simp[o4]) rfl|exact aB (by simp[o4])
 ·refine CI.cc [] (WN j n x l hG hj) ?_;simp;refine CI.cc [193] (FU (lN j.gone n) (.fn (.func 194) [] [.aT [.aT (e6 j)]]) (λk=>!j.rA k) (λk _=>bP.j2 (by exact Z8 j k hj) Tryz.call194 rfl rfl) hlen) ?_;simp;first|exact aA (by simp[hG]) rfl|exact aB (by simp[hG])
abbrev A7 (f:FuncId)(j:List D):D:=.fn (.func f) [.aT j] []
noncomputable abbrev U2 (j:bW):List (List D):=[[lD [[iD 3],[iD 2],[iD 1]],A7 142 (e6 j)],[lD [[iD 0]],A7 143 (e6 j)],[lD [[iD 3],[iD 2],[iD 1]],A7 144 (e6 j)],[lD [[iD 1],[iD 2],[iD 3]],A7 145 (e6 j)]]
attribute [simp] Tryz.ntmps91 Tryz.results91
theorem U1 (j:bW):Ct Tryz.prog 91 [.d (.aT (e6 j))] [] [] (aD (U2 j)) []:=by
 refine Ct.B Tryz.func91 ?_;simp;refine CI.VH [128,256,640] 99 400 rfl rfl (by first|exact .inl rfl|exact .inr ⟨_,_,rfl,by simp⟩|exact .inr ⟨_,_,rfl,by simp[*]⟩) (by simp) ?_;simp[nJ,fK];first|exact aA (by simp) rfl|exact aB (by simp)
attribute [simp] Tryz.ntmps90 Tryz.results90
theorem Ee (hv want:List aC)(held:List Key)(hh:gG hv)(hl:hv.length<=1000000)(hw:want.length<=100000):Ct Tryz.prog 90 [aD (hv.map aF),aD (want.map aF),aD (held.map aK)] [] [] (.d (.aT (e6 (j3 hv want held)))) []:=by
 refine Ct.B Tryz.func90 ?_;simp;refine CI.p (Ce hv want hh hl (by omega)) ?_;simp;refine CI.p (UA want hw) ?_;simp;have hrl:(jA want).length<=100000:=cD (eE _ _) hw;refine aJ.V ((jA want)) (λk=>[(7,.ptr 64 0),(28,aD ((jA want).map aF)),(29,int (jA want).length),(30,int k.1)]) (λk=>[(64,.cells [aD ((dR hv want).map aF),aD ((eQ hv want).map aK),.own 65,aD (hv.map aF),aD (held.map aK)] 210),(65,.map true [.int,.str] false (gB (((jA want).take k.1).map aC.key)))]) 66 (λk hk1 B hB=>?_) (h0:=by constructor<;>simp[r4]);simp[r4];refine aE (λh=>?_) (λh=>?_)
 ·have hk:k<((jA want)).length:=by simpa using h
  obtain⟨x,hx,hr,hm,ht,hd,hw⟩:=bB hk;simp only[h];simp[hr,hw];refine CI.p (fW x) ?_;simp;refine⟨by decide+kernel,?_⟩;exact hB hk (by constructor<;>simp[hw,ht])
 ·obtain rfl:k=((jA want)).length:=by simp at h;omega
  simp only[h];simp;first|exact aA (by simp[j3]) rfl|exact aB (by simp[j3])
theorem FP {j:bW}(hj:n1 j)(n:Int):(j.early n).aL.length<=1000000/\(j.early n).gone.length<=1000000:=
 ⟨cD (eE _ _) (cD (w9 _ _) hj.1),by simp[bW.early]⟩
theorem EK {j:bW}(hj:n1 j)(n:Int):(j.late n).aL.length<=1000000/\(j.late n).gone.length<=1000000:=
 ⟨cD (w9 _ _) hj.1,by simp[bW.late]⟩
theorem Ca {j:bW}(hj:n1 j)(n:Int):(j.doors n).aL.length<=1000000/\(j.doors n).gone.length<=1000000:=
 ⟨cD (w9 _ _) hj.1,cD (AP _ _) hj.2.1⟩
theorem FB {j:bW}(hj:n1 j)(n:Int):(j.free n).aL.length<=1000000/\(j.free n).gone.length<=1000000:=
 ⟨by simp[bW.free],cD (eE _ _) (cD (AP _ _) hj.2.1)⟩
theorem KG (hv want:List aC)(held:List Key)(hh:gG hv)(hl:hv.length<=1000000)(hw:want.length<=100000)(hd:held.length<=1000000):Ct Tryz.prog 41 [aD (hv.map aF),aD (want.map aF),aD (held.map aK)] [] [] (.bC [st (rT ((lZ hv want held).getD ⟨0,[],[]⟩)),bool (lZ hv want held).isSome]) []:=by
 refine Ct.rZ Tryz.func41 rfl mixed (by rw[Tryz.ntmps41];simp) (CI.SL mixed (Plain.oO _ _ _ _ _) rfl (CI.run 99 400 rfl ?_));simp;refine CI.p (Ee hv want held hh hl hw) ?_;simp;refine CI.p (U1 (j3 hv want held)) ?_;simp;have hn:lZ hv want held=(j3 hv want held).steps.find? λs=>!s.none:=rfl;have hj:n1 (j3 hv want held):=⟨cD (BH _ _) (by omega),cD (BG _ _) hl,hl,hd⟩;rw[hn];clear hn;generalize j3 hv want held=j at hj⊢;refine aJ.un ?_;simp;refine aJ.un ?_;simp;refine CI.ff (bP.jG (args:=[int 3]) (first:=[.aT (e6 j)]) (by exact FO j 3 hj) Tryz.call142 rfl rfl) rfl rfl rfl ?_;simp;refine CI.p (pY (j.early 3) (FP hj 3)) ?_;simp;refine aE (λh1=>?_) (λh1=>?_)<;>simp only[h1]<;>simp
 ·have h1':(j.early 3).none=false:=by simpa using h1
  have e:(j.steps.find? λs=>!s.none)=some (j.early 3):=by simp[bW.steps,nP,h1']
  first|exact aA (by simp[e]) rfl|exact aB (by simp[e])
 have h1':(j.early 3).none=true:=by simpa using h1
 refine aJ.un ?_;simp;refine CI.ff (bP.jG (args:=[int 2]) (first:=[.aT (e6 j)]) (by exact FO j 2 hj) Tryz.call142 rfl rfl) rfl rfl rfl ?_;simp;refine CI.p (pY (j.early 2) (FP hj 2)) ?_;simp;refine aE (λh2=>?_) (λh2=>?_)<;>simp only[h2]<;>simp
 ·have h2':(j.early 2).none=false:=by simpa using h2
  have e:(j.steps.find? λs=>!s.none)=some (j.early 2):=by simp[bW.steps,nP,h1',h2']
  first|exact aA (by simp[e]) rfl|exact aB (by simp[e])
 have h2':(j.early 2).none=true:=by simpa using h2
 refine aJ.un ?_;simp;refine CI.ff (bP.jG (args:=[int 1]) (first:=[.aT (e6 j)]) (by exact FO j 1 hj) Tryz.call142 rfl rfl) rfl rfl rfl ?_;simp;refine CI.p (pY (j.early 1) (FP hj 1)) ?_;simp;refine aE (λh3=>?_) (λh3=>?_)<;>simp only[h3]<;>simp
 ·have h3':(j.early 1).none=false:=by simpa using h3
  have e:(j.steps.find? λs=>!s.none)=some (j.early 1):=by simp[bW.steps,nP,h1',h2',h3']
  first|exact aA (by simp[e]) rfl|exact aB (by simp[e])
 have h3':(j.early 1).none=true:=by simpa using h3
 refine aJ.un ?_;simp;refine aJ.un ?_;simp;refine aJ.un ?_;simp;refine CI.ff (bP.jG (args:=[int 0]) (first:=[.aT (e6 j)]) (by exact Bz j 0 hj) Tryz.call143 rfl rfl) rfl rfl rfl ?_;simp;refine CI.p (pY (j.doors 0) (Ca hj 0)) ?_;simp;refine aE (λh4=>?_) (λh4=>?_)<;>simp only[h4]<;>simp
 ·have h4':(j.doors 0).none=false:=by simpa using h4
  have e:(j.steps.find? λs=>!s.none)=some (j.doors 0):=by simp[bW.steps,nP,h1',h2',h3',h4']
  first|exact aA (by simp[e]) rfl|exact aB (by simp[e])
 have h4':(j.doors 0).none=true:=by simpa using h4
 refine aJ.un ?_;simp;refine aJ.un ?_;simp;refine aJ.un ?_;simp;refine CI.ff (bP.jG (args:=[int 3]) (first:=[.aT (e6 j)]) (by exact AM j 3 hj) Tryz.call144 rfl rfl) rfl rfl rfl ?_;simp;refine CI.p (pY (j.late 3) (EK hj 3)) ?_;simp;refine aE (λh5=>?_) (λh5=>?_)<;>simp only[h5]<;>simp
 ·have h5':(j.late 3).none=false:=by simpa using h5
  have e:(j.steps.find? λs=>!s.none)=some (j.late 3):=by simp[bW.steps,nP,h1',h2',h3',h4',h5']
  first|exact aA (by simp[e]) rfl|exact aB (by simp[e])
 have h5':(j.late 3).none=true:=by simpa using h5
 refine aJ.un ?_;simp;refine CI.ff (bP.jG (args:=[int 2]) (first:=[.aT (e6 j)]) (by exact AM j 2 hj) Tryz.call144 rfl rfl) rfl rfl rfl ?_;simp;refine CI.p (pY (j.late 2) (EK hj 2)) ?_;simp;refine aE (λh6=>?_) (λh6=>?_)<;>simp only[h6]<;>simp
 ·have h6':(j.late 2).none=false:=by simpa using h6
  have e:(j.steps.find? λs=>!s.none)=some (j.late 2):=by simp[bW.steps,nP,h1',h2',h3',h4',h5',h6']
  first|exact aA (by simp[e]) rfl|exact aB (by simp[e])
 have h6':(j.late 2).none=true:=by simpa using h6
 refine aJ.un ?_;simp;refine CI.ff (bP.jG (args:=[int 1]) (first:=[.aT (e6 j)]) (by exact AM j 1 hj) Tryz.call144 rfl rfl) rfl rfl rfl ?_;simp;refine CI.p (pY (j.late 1) (EK hj 1)) ?_;simp;refine aE (λh7=>?_) (λh7=>?_)<;>simp only[h7]<;>simp
 ·have h7':(j.late 1).none=false:=by simpa using h7
  have e:(j.steps.find? λs=>!s.none)=some (j.late 1):=by simp[bW.steps,nP,h1',h2',h3',h4',h5',h6',h7']
  first|exact aA (by simp[e]) rfl|exact aB (by simp[e])
 have h7':(j.late 1).none=true:=by simpa using h7
 refine aJ.un ?_;simp;refine aJ.un ?_;simp;refine aJ.un ?_;simp;refine CI.ff (bP.jG (args:=[int 1]) (first:=[.aT (e6 j)]) (by exact ES j 1 hj) Tryz.call145 rfl rfl) rfl rfl rfl ?_;simp;refine CI.p (pY (j.free 1) (FB hj 1)) ?_;simp;refine aE (λh8=>?_) (λh8=>?_)<;>simp only[h8]<;>simp
 ·have h8':(j.free 1).none=false:=by simpa using h8
  have e:(j.steps.find? λs=>!s.none)=some (j.free 1):=by simp[bW.steps,nP,h1',h2',h3',h4',h5',h6',h7',h8']
  first|exact aA (by simp[e]) rfl|exact aB (by simp[e])
 have h8':(j.free 1).none=true:=by simpa using h8
 refine aJ.un ?_;simp;refine CI.ff (bP.jG (args:=[int 2]) (first:=[.aT (e6 j)]) (by exact ES j 2 hj) Tryz.call145 rfl rfl) rfl rfl rfl ?_;simp;refine CI.p (pY (j.free 2) (FB hj 2)) ?_;simp;refine aE (λh9=>?_) (λh9=>?_)<;>simp only[h9]<;>simp
 ·have h9':(j.free 2).none=false:=by simpa using h9
  have e:(j.steps.find? λs=>!s.none)=some (j.free 2):=by simp[bW.steps,nP,h1',h2',h3',h4',h5',h6',h7',h8',h9']
  first|exact aA (by simp[e]) rfl|exact aB (by simp[e])
 have h9':(j.free 2).none=true:=by simpa using h9
 refine aJ.un ?_;simp;refine CI.ff (bP.jG (args:=[int 3]) (first:=[.aT (e6 j)]) (by exact ES j 3 hj) Tryz.call145 rfl rfl) rfl rfl rfl ?_;simp;refine CI.p (pY (j.free 3) (FB hj 3)) ?_;simp;refine aE (λh10=>?_) (λh10=>?_)<;>simp only[h10]<;>simp
 ·have h10':(j.free 3).none=false:=by simpa using h10
  have e:(j.steps.find? λs=>!s.none)=some (j.free 3):=by simp[bW.steps,nP,h1',h2',h3',h4',h5',h6',h7',h8',h9',h10']
  first|exact aA (by simp[e]) rfl|exact aB (by simp[e])
 have h10':(j.free 3).none=true:=by simpa using h10
 refine aJ.un ?_;simp;refine aJ.un ?_;simp;have e:(j.steps.find? λs=>!s.none)=none:=by simp[bW.steps,nP,h1',h2',h3',h4',h5',h6',h7',h8',h9',h10']
 first|exact aA (by simp[e]) rfl|exact aB (by simp[e])
attribute [simp] Tryz.ntmps12 Tryz.results12
theorem JB (s:bM)(p:aZ)(hs:gO s)(hl:s.v.aI.length<=1000000)(hpl:p.aU.length<=1000000)(hw:(bX p).length<=100000):Ct Tryz.prog 12 [st (dB s),st (dI p)] [] [] (.bC [st (dB (nD s p).1),aD ((nD s p).2.1.map bU),int (nD s p).2.2]) []:=by
 refine Ct.B Tryz.func12 ?_;simp;refine CI.p (C8 s hs hl) ?_;simp;have hq0:=sV s;have hqo:=sW hs;have hh:nD s p=dP (cW s) p:=rfl;rw[hh];clear hh;generalize cW s=q at hq0 hqo⊢;have S:=pK.1 hq0;have b1:=S.hl;have b2:=S.dl;refine CI.p (DX p hpl) ?_;simp;refine aM (λh1=>?_) (λh1=>?_)<;>simp only[h1]<;>simp
 ·have hi:idle q p=true:=by
   have:q.jX=false:=by simpa using h1
   simp[idle,this]
  first|exact aA (by simp[dP,hi]) rfl|exact aB (by simp[dP,hi])
 have h1':q.jX=true:=by simpa using h1
 refine aM (λh2=>?_) (λh2=>?_)<;>simp only[h2]<;>simp
 ·have hi:idle q p=true:=by simp[idle,h2]
  first|exact aA (by simp[dP,hi,h2]) rfl|exact aB (by simp[dP,hi,h2])
 refine aM (λh3=>?_) (λh3=>?_)<;>simp only[h3]<;>simp
 ·have h3':¬q.stuck=0:=by simpa using h3
  refine aE (λh4=>?_) (λh4=>?_)<;>simp only[h4]<;>simp
  ·have h4':q.at_=lY p:=by simpa[lY]using h4
   have hi:idle q p=true:=by simp[idle,h3',h4']
   first|exact aA (by simp[dP,hi,h2]) rfl|exact aB (by simp[dP,hi,h2])
  have h4':¬q.at_=lY p:=by simpa[lY]using h4
  have hi:idle q p=false:=by simp[idle,h1',h2,h4']
  refine CI.p (KG q.v.aI (bX p) q.v.held hqo.v.aI (by omega) hw (by omega)) ?_ (ha:=by simp[bX]);simp[bX];rcases hn:lZ q.v.aI (cM (cO p)) q.v.held with _|x
  ·simp;first|exact aA (by simp[dP,hi,h2,bX,hn]) rfl|exact aB (by simp[dP,hi,h2,bX,hn])
  ·simp;refine CI.p (KC q.out x.kind) ?_;simp;refine aE (λh5=>?_) (λh5=>?_)<;>simp only[h5]<;>simp<;>(try simp only[nT,nF,dT,dF]at h5)
   ·first|exact aA (by simp[dP,hi,h2,bX,hn,kB,h5]) rfl|exact aB (by simp[dP,hi,h2,bX,hn,kB,h5])
   ·refine CI.p (HP q.v (gJ q x (Nonce.push q.out x.kind).2.1)) ?_ (ha:=by simp[gJ,h2]);simp[gJ,h2];refine⟨by decide+kernel,?_⟩;first|exact aA (by simp[dP,hi,h2,bX,hn,kB,h5,gJ,lU]) rfl|exact aB (by simp[dP,hi,h2,bX,hn,kB,h5,gJ,lU])
 ·have h3':q.stuck=0:=by simpa using h3
  have hi:idle q p=false:=by simp[idle,h1',h2,h3']
  refine CI.p (KG q.v.aI (bX p) q.v.held hqo.v.aI (by omega) hw (by omega)) ?_ (ha:=by simp[bX]);simp[bX];rcases hn:lZ q.v.aI (cM (cO p)) q.v.held with _|x
  ·simp;first|exact aA (by simp[dP,hi,h2,bX,hn]) rfl|exact aB (by simp[dP,hi,h2,bX,hn])
  ·simp;refine CI.p (KC q.out x.kind) ?_;simp;refine aE (λh5=>?_) (λh5=>?_)<;>simp only[h5]<;>simp<;>(try simp only[nT,nF,dT,dF]at h5)
   ·first|exact aA (by simp[dP,hi,h2,bX,hn,kB,h5]) rfl|exact aB (by simp[dP,hi,h2,bX,hn,kB,h5])
   ·refine CI.p (HP q.v (gJ q x (Nonce.push q.out x.kind).2.1)) ?_ (ha:=by simp[gJ,h2]);simp[gJ,h2];refine⟨by decide+kernel,?_⟩;first|exact aA (by simp[dP,hi,h2,bX,hn,kB,h5,gJ,lU]) rfl|exact aB (by simp[dP,hi,h2,bX,hn,kB,h5,gJ,lU])
attribute [simp] Tryz.ntmps20 Tryz.results20
theorem IJ (s:bM)(hs:gO s)(hl:s.v.aI.length<=1000000):Ct Tryz.prog 20 [st (dB s)] [] [] (aD ((kZ s).map bU)) []:=by
 refine Ct.B Tryz.func20 ?_;simp;refine CI.p (C8 s hs hl) ?_;simp;refine aE (λh1=>?_) (λh1=>?_)<;>simp only[h1]<;>simp
 ·have h1':(cW s).v.open_=false:=by simpa using h1
  first|exact aA (by simp[kZ,h1']) rfl|exact aB (by simp[kZ,h1'])
 ·have h1':(cW s).v.open_=true:=by simpa using h1
  first|exact aA (by simp[kZ,h1']) rfl|exact aB (by simp[kZ,h1'])
theorem PC (e m:Int):gO (hX e m):=⟨yP⟩
theorem PE :iS xP:=⟨by simp[xP],by simp[xP];exact⟨⟨by simp,by simp⟩,⟨by simp,by simp[xC,xE];exact⟨⟨by decide,by decide,by simp,by simp,by simp⟩,⟨by decide,by decide,by simp,by simp,by simp⟩⟩⟩⟩⟩
theorem PG :eD xF:=⟨⟨by simp[xF],by simp[xF]⟩,by simp[xF],by simp[xF],by simp[xF]⟩
theorem PF :eD xG:=⟨⟨by simp[xG],by simp[xG,xE];exact⟨by decide,by decide,by simp,by simp,by simp⟩⟩,by simp[xG],by simp[xG],by simp[xG]⟩
theorem PD :gO xS:=⟨yP⟩
theorem GM :gO xT:=⟨⟨by simp[xT],by simp[xT]⟩,by simp[xT],PF⟩
attribute [simp] Tryz.ntmps4 Tryz.results4
theorem Ek :gV sE Tryz.prog 4 [] [] [] (bool true) []:=by
 refine gV.B BE Tryz.func4 ?_;simp;have ht:cO (dU 9)=dU 9:=HT (SP 9);have p1:=Hc (dU 9) [xC,xE] [] (by simp[dU]) (by rw[ht];exact⟨by simp[dU,cM],by simp[dU,cM]⟩) (by rw[ht];simp[dU,cM]) (by simp);rw[ht,Bf,Be]at p1;have p2:=L9 (hX 4 9) xP xF (PC 4 9) (by simp[hX,j7]) PG PE (by simp[xP]);rw[Bd]at p2;have p3:=JB xS xP PD (by simp[xS,j7]) (by simp[xP]) M9.2;rw[UN M9.1,Bc]at p3;have p4:=IJ xT GM (by simp[xT]);rw[Bb]at p4;have p5:=HY xT GM (by simp[xT]);rw[Ba]at p5;have g1:xS.jX=true:=rfl;have g2:xG.kind=3:=rfl;have g3:xT.v.open_=true:=rfl;refine CI.p (KI 9) ?_;simp;refine CI.jg BE [320] [] p1 ?_ (ha:=by simp[nJ,xC,xE]) (hk:=by simp[fK,xC,xE]);simp[xC,xE];refine CI.p (D1 4 9) ?_;simp;refine CI.p p2 ?_ (ha:=by simp[xF]);simp[xF];refine⟨by decide+kernel,?_⟩;refine CI.p p3 ?_ (ha:=by simp[g1,g2,g3]);simp[g1,g2,g3];refine CI.p p4 ?_ (ha:=by simp[g1,g2,g3]);simp[g1,g2,g3];refine CI.p p5 ?_ (ha:=by simp[g1,g2,g3]);simp[g1,g2,g3];first|exact aA (by simp) rfl|exact aB (by simp)
@[simp] theorem lenAll_frame (l:List G.Frame):gL (l.map bU) 10=True:=r5 (f:=bU) (n:=10) (λ_=>rfl) l
attribute [simp] Tryz.ntmps17 Tryz.results17
theorem LD (l:List G.Frame)(hl:l.length<=1000)(hf:∀f∈l,f.aI.length<=1000000):Ct Tryz.prog 17 [aD (l.map bU)] [] [] (aD (l.map bU)) []:=by
 refine Ct.B Tryz.func17 ?_;simp;refine aJ.gK 3 10 31 rfl ?_;refine aJ.V (l) (λk=>[(0,aD (l.map bU)),(3,.own 64),(4,int k.1)]) (λk=>[(64,.grow 10 ((l.take k.1).map bU) 31)]) 65 (λk hk1 B hB=>?_);simp;refine aE (λh=>?_) (λh=>?_)
 ·have hk:k<(l).length:=by simpa using h
  obtain⟨x,hx,hr,hm,ht,hd,hw⟩:=bB hk;simp only[h];simp[hr,hw];refine CI.p (JF x (hf x hm)) ?_;simp;refine⟨by omega,?_⟩;exact hB hk (by constructor<;>simp[hw,ht])
 ·obtain rfl:k=(l).length:=by simp at h;omega
  simp only[h];simp;first|exact aA (by simp) rfl|exact aB (by simp)
attribute [simp] Tryz.ntmps16 Tryz.results16
theorem MP (a b:List G.Frame)(hl:a.length<=1000)(hf:∀f∈a,eD f):Ct Tryz.prog 16 [aD (a.map bU),aD (b.map bU)] [] [] (bool (decide (a=b))) []:=by
 refine Ct.B Tryz.func16 ?_;simp;refine aE (λh1=>?_) (λh1=>?_)<;>simp only[h1]<;>simp<;>(try simp only[nT,nF,dT,dF]at h1)
 ·have e:¬a=b:=λe=>h1 (by rw[e]);first|exact aA (by simp[e]) rfl|exact aB (by simp[e])
 have hab:a.length=b.length:=by omega
 refine aJ.inv mixed rfl (ι:={k:Nat//k<=(a).length/\a.take k=b.take k}) (λk=>[(0,aD (a.map bU)),(1,aD (b.map bU)),(5,int k.1)]) (λk=>[]) 64 (λk=>(a).length-k.1) ⟨0,by omega,by simp⟩ [] (by constructor<;>simp) ?_;rintro⟨k,hk1,hi⟩ B hB;refine CI.n ?_;simp;refine aE (λh=>?_) (λh=>?_)
 ·have hk:k<(a).length:=by simpa using h
  obtain⟨x,hx,hr,hm,ht,hd,hw⟩:=bB hk;simp only[h];simp[hr,hw];have hrb:b[k]? =some b[k]:=bL (by omega);have htb:b.take (k+1)=b.take k++[b[k]]:=by rw[eW,hrb];rfl
  have hne:x≠b[k]->a≠b:=by
   intro h2 e;subst e;rw[hr]at hrb;cases hrb;exact h2 rfl
  generalize b[k]=y at hrb htb hne;simp[hrb];refine CI.p (HZ x y (hf x hm)) ?_;simp;refine⟨by decide+kernel,?_⟩;refine aE (λh2=>?_) (λh2=>?_)<;>simp only[h2]<;>simp<;>(try simp only[nT,nF,dT,dF]at h2)
  ·first|exact aA (by simp[hne h2]) rfl|exact aB (by simp[hne h2])
  ·refine hB _ ⟨k+1,by omega,by rw[ht,htb,hi,h2]⟩ [] ?_ (by simp;omega);constructor<;>simp[hw]
 ·obtain rfl:k=(a).length:=by simp at h;omega
  simp only[h];simp;have e:a=b:=by
   rw[bK,hab,bK]at hi;exact hi
  first|exact aA (by simp[e]) rfl|exact aB (by simp[e])
attribute [simp] Tryz.ntmps22 Tryz.results22
theorem R8 (s:bM)(p:aZ)(hs:gO s)(hl:s.v.aI.length<=1000000)(hpl:p.aU.length<=1000000):Ct Tryz.prog 22 [st (dB s),st (dI p)] [] [] (bool (qM s p)) []:=by
 refine Ct.B Tryz.func22 ?_;simp;refine CI.p (C8 s hs hl) ?_;simp;have ho:=(sW hs).v.aI;have hh:qM s p=((cW s).jX&& !(cW s).v.open_&&decide ((cW s).v.aI=bX p)):=rfl;rw[hh];clear hh;generalize cW s=q at ho⊢;refine CI.p (DX p hpl) ?_;simp;refine aM (λh1=>?_) (λh1=>?_)<;>simp only[h1]<;>simp
 ·refine aM (λh2=>?_) (λh2=>?_)<;>simp only[h2]<;>simp
  ·refine CI.p (G8 q.v.aI (bX p) ho) ?_ (ha:=by simp[bX]);simp[bX];first|exact aA (by simp[h1,h2]) rfl|exact aB (by simp[h1,h2])
  ·first|exact aA (by simp[h1,h2]) rfl|exact aB (by simp[h1,h2])
 ·first|exact aA (by simp[h1]) rfl|exact aB (by simp[h1])
end Go.Proofs.YtelooagbkmpdpaaGreatDoor
