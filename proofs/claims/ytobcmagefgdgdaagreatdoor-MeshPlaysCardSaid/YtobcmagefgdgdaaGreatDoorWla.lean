/- LAYERS 18 to 23, walked -/
import Derived.Test.YtobcmagefgdgdaaGreatDoorWka
import Derived.Test.YtobcmagefgdgdaaGreatDoorWi
set_option linter.unusedSimpArgs false
set_option linter.unusedVariables false
set_option maxRecDepth 100000
set_option maxHeartbeats 8000000
namespace Go.Proofs.YtobcmagefgdgdaaGreatDoor
open Go.AI Go.G Tryz
attribute [simp] ntmps593 results593 ntmps565 results565 ntmps594 results594 ntmps566 results566 ntmps517 results517 ntmps518 results518 ntmps595 results595 ntmps567 results567 ntmps519 results519
theorem zdz (s p:Str):C0 592 [str s,str p] (bool (lJ s p)):=hasPrefix s p
theorem WB (s p:Str):C0 564 [str s,str p] (bool (lJ s p)):=Oe s p
theorem ziR (s p:Str):C0 593 [str s,str p] (.aU [str (rL s p),bool (lJ s p)]):=by
 refine Ct.B func593 ?_;simp;have hs:=iA s;have hp:=iA p;refine CI.p (zdz s p) ?_;simp;unfold rL;cases h1:lJ s p with
 |false=>
  simp[h1];exact aA
 |true=>
  have h1':(bs p).length<=(bs s).length:=by
   simp only[lJ,bL,dA]at h1;exact h1.1
  simp[h1,hs,hp];refine⟨by omega,?_⟩;exact aA
theorem Qh (s p:Str):C0 565 [str s,str p] (.aU [str (rL s p),bool (lJ s p)]):=by
 refine Ct.B func565 ?_;simp;refine CI.p (ziR s p) ?_;simp;exact aA
theorem hasSuffix (s p:Str)(hl:(bs s).length<=1000000):C0 594 [str s,str p] (bool (zK s p)):=by
 refine Ct.B func594 ?_;simp;have hs:=iA s;have hp:=iA p;unfold zK;simp[hs,hp];have e:decide (s.extract ((bs s).length-(bs p).length) (bs s).length=p)=decide ((bs s).drop ((bs s).length-(bs p).length)=bs p):=EF.2 (by rw[A5,LP]);refine bM (λh1=>?_) (λh1=>?_)<;>simp only[h1]<;>simp[hs,hp]
 ·have h1':=lS h1;have w1:IntKind.wrap .i64 (((bs s).length:Int)-(bs p).length)=((bs s).length-(bs p).length:Nat):=by rw[wz _];omega
  simp[w1];rw[<-e];exact aA (by simp[h1])
 ·exact aA (by simp[h1])
theorem Od (s p:Str)(hl:(bs s).length<=1000000):C0 566 [str s,str p] (bool (zK s p)):=by
 refine Ct.B func566 ?_;simp;refine CI.p (hasSuffix s p hl) ?_;simp;exact aA
theorem zfF (p h:Str)(hp:(bs p).length<=1000000)(hh:(bs h).length<=1000000):C0 517 [str p,str h] (bool (rF p h)):=by
 refine Ct.B func517 ?_;simp;have hs:=iA h;have hq:=iA (rL p ⟨#[42]⟩);unfold rF;refine CI.p (YJ p) ?_;simp;cases h1:j8 p with
 |false=>
  simp[h1];exact aA
 |true=>
  simp[h1];refine CI.p (YJ h) ?_;simp;cases h2:j8 h with
  |false=>
   simp[h2];exact aA
  |true=>
   simp[h2];refine CI.p (WB h ⟨#[42]⟩) ?_;simp;cases h3:lJ h ⟨#[42]⟩with
   |true=>
    simp[h3];exact aA
   |false=>
    simp[h3];by_cases h4:p=⟨#[42]⟩
    ·simp[h4];exact aA
    ·by_cases h5:p=h
     ·subst h5;simp[h4];exact aA
     ·simp[h4,h5];refine CI.p (Qh p ⟨#[42]⟩) ?_;simp;cases h6:lJ p ⟨#[42]⟩with
      |false=>
       simp[h6];exact aA (by simp[h6])
      |true=>
       simp[h6];by_cases h7:(bs (rL p ⟨#[42]⟩)).length<(bs h).length
       ·simp[h7,hs,hq];refine CI.p (Od h (rL p ⟨#[42]⟩) hh) ?_;simp;exact aA (by simp[h6,h7])
       ·simp[h7,hs,hq];exact aA (by simp[h6,h7])
theorem Vg (p s:Str)(hp:(bs p).length<=1000000)(hh:(bs s).length<=1000000):C0 518 [str p,str s] (bool (rQ p s)):=by
 refine Ct.B func518 ?_;simp;unfold rQ;refine CI.p (Qh s p) ?_;simp;cases h1:lJ s p with
 |false=>
  simp[h1];exact aA
 |true=>
  simp[h1];refine CI.p (WC p) ?_;simp;cases h2:kL p with
  |false=>
   simp[h2];exact aA
  |true=>
   simp[h2];refine CI.p (WC s) ?_;simp;cases h3:kL s with
   |false=>
    simp[h3];exact aA
   |true=>
    simp[h3];by_cases h4:rL s p=⟨#[]⟩
    ·simp[h4];exact aA (by simp[h4])
    ·simp[h4];refine CI.p (Od p ⟨#[47]⟩ hp) ?_;simp;cases h5:zK p ⟨#[47]⟩with
     |true=>
      simp[h5];exact aA (by simp[h4,h5])
     |false=>
      simp[h5];refine CI.p (WB (rL s p) ⟨#[47]⟩) ?_;simp;exact aA (by simp[h4,h5])
theorem Bf (s:Str):C0 595 [str s] (int (pZ s)):=by
 refine Ct.B func595 ?_;simp;have hs:=iA s;unfold pZ;by_cases h1:s=⟨#[42]⟩
 ·simp[h1];exact aA
 ·simp[h1];refine CI.p (WB s ⟨#[42,46]⟩) ?_;simp;cases h2:lJ s ⟨#[42,46]⟩with
  |true=>
   simp[h2];exact aA (by simp[hs])
  |false=>
   simp[h2];exact aA
theorem zfa (a b:Str):C0 567 [str a,str b] (int (tY a b)):=by
 refine Ct.B func567 ?_;simp;refine CI.p (Bf a) ?_;simp;refine CI.p (Bf b) ?_;simp;refine CI.p (Qq (pZ a) (pZ b)) ?_;simp;exact aA (by simp[tY,FX])
theorem zj7 (a b:cH):C0 519 [st (dJ a),st (dJ b)] (bool (pU a b)):=by
 refine Ct.B func519 ?_;simp;have hs:=iA a.pre;have hq:=iA b.pre;unfold pU;refine CI.p (zfa a.host b.host) ?_;simp;by_cases h1:0<tY a.host b.host
 ·simp[h1];exact aA
 ·by_cases h2:tY a.host b.host<0
  ·simp[h1,h2];exact aA
  ·simp[h1,h2];exact aA (by simp[hs,hq])
attribute [simp] ntmps515 results515 ntmps516 results516 ntmps436 results436 ntmps521 results521 ntmps520 results520 ntmps437 results437 ntmps438 results438
theorem zjT (l:List cH)(kf:D)(may:cH->Bool)(hf:∀x∈l,bN prog (.d kf) [st (dJ x)] (bool (may x)))(hl:l.length<=1000000):C0 515 [aB (l.map dJ),.d kf,.d (dE 519)] (.aU [st (dJ (l.foldl (lM may) (oR,false)).1),bool (l.foldl (lM may) (oR,false)).2]):=by
 refine Ct.B func515 ?_;simp;refine aH.V (l) (λk=>[(1,.d kf),(2,.d (dE 519)),(6,.ptr 65 0),(8,.ptr 64 0),(9,bool ((l.take k.1).foldl (lM may) (oR,false)).2),(12,aB (l.map dJ)),(13,int l.length),(14,int k.1)]) (λk=>[(64,.cells [str ((l.take k.1).foldl (lM may) (oR,false)).1.host,str ((l.take k.1).foldl (lM may) (oR,false)).1.pre,aB (((l.take k.1).foldl (lM may) (oR,false)).1.split.map wC)] 179),(65,.cells [str ⟨#[]⟩,str ⟨#[]⟩,aB []] 179)]) 66 (λk hk1 B hB=>?_);simp;rcases bC hk1 with⟨r,hk,hx,hr,hm,ht,hd,hw,h⟩|rfl
 ·simp[h,hr,hw];generalize hz:(l.take k).foldl (lM may) (oR,false)=z;refine CI.ff (hf r hm) rfl rfl rfl ?_;simp;cases h1:may r with
  |false=>
   have e:lM may z r=z:=by simp[lM,h1]
   simp[h1];exact hB hk (by constructor<;>simp[hw,ht,hz,e])
  |true=>
   simp[h1];cases h2:z.2 with
   |false=>
    have e:lM may z r=(r,true):=by simp[lM,h1,h2]
    simp[h2];exact hB hk (by constructor<;>simp[hw,ht,hz,e])
   |true=>
    simp[h2];refine CI.ff (bN.of (zj7 r z.1) call519 rfl rfl) rfl rfl rfl ?_;simp;cases h3:pU r z.1 with
    |true=>
     have e:lM may z r=(r,true):=by simp[lM,h1,h3]
     simp[h3];exact hB hk (by constructor<;>simp[hw,ht,hz,e])
    |false=>
     have e:lM may z r=z:=by simp[lM,h1,h2,h3]
     simp[h3];exact hB hk (by constructor<;>simp[hw,ht,hz,e,h2])
 ·simp;exact aA
theorem zbY (r:cH)(h s:Str)(hh:(bs h).length<=1000000)(hs:(bs s).length<=1000000)(hr:(bs r.host).length<=1000000)(hp:(bs r.pre).length<=1000000):C0 516 [st (dJ r),.d (.bE [sD h]),.d (.bE [sD s])] (bool (rF r.host h&&rQ r.pre s)):=by
 refine Ct.B func516 ?_;simp;refine CI.p (zfF r.host h hr hh) ?_;simp;cases h1:rF r.host h with
 |false=>
  simp[h1];exact aA
 |true=>
  simp[h1];refine CI.p (Vg r.pre s hp hs) ?_;simp;exact aA
theorem zc0 (l:List cH)(h s:Str)(hh:(bs h).length<=1000000)(hs:(bs s).length<=1000000)(hr:∀r∈l,(bs r.host).length<=1000000/\(bs r.pre).length<=1000000)(hl:l.length<=1000000):C0 436 [aB (l.map dJ),str h,str s] (.aU [st (dJ (tT l h s).1),bool (tT l h s).2]):=by
 refine Ct.BS func436 mixed 1 400 ?_;simp;refine CI.s (tm:=[(0,aB (l.map dJ)),(4,.d (.bE [sD h])),(5,.d (.bE [sD s])),(6,.ptr 192 0)]) (mm:=[(192,.cells [str ⟨#[]⟩,str ⟨#[]⟩,aB []] 179)]) (nx:=193) [] [64,128] (by constructor<;>simp) ?_;refine CI.n ?_;simp;refine CI.p (zjT l (.fn (.func 516) [] [.bE [sD h],.bE [sD s]]) (λr=>rF r.host h&&rQ r.pre s) (λr hr'=>bN.nZ (zbY r h s hh hs (hr r hr').1 (hr r hr').2) call516 rfl rfl) hl) ?_;simp;exact aA (by simp[tT])
theorem Bg (w:Weight):C0 521 [st (wC w)] (int (lT w)):=by
 refine Ct.B func521 ?_;simp;have e:=Rn w.w;exact aA (by simp[e,lT])
theorem Vp (l:List Weight)(hl:l.length<=1000000):C0 520 [aB (l.map wC)] (int (l7 l)):=by
 refine Ct.B func520 ?_;simp;refine aH.V (l) (λk=>[(3,int (l7 (l.take k.1))),(6,aB (l.map wC)),(7,int l.length),(8,int k.1)]) (λk=>[]) 64 (λk hk1 B hB=>?_) (h0:=by constructor<;>simp[NI]);simp[NI];rcases bC hk1 with⟨w,hk,hx,hr,hm,ht,hd,hw,h⟩|rfl
 ·simp[h,hr,hw];have hb:=NJ (l.take k);have hwb:=NC w;have hlen:(l.take k).length<=1000000:=by simp;omega
  have w1:=wz (l7 (l.take k)+lT w);refine CI.p (Bg w) ?_ (ha:=by simp[w1]);simp[w1];exact hB hk (by constructor<;>simp[hw,ht,Cc])
 ·simp;exact aA
theorem zji (l:List Weight)(draw:Int)(hl:l.length<=1000000):C0 437 [aB (l.map wC),int draw] (.aU [str (DX l draw).1,bool (DX l draw).2]):=by
 refine Ct.B func437 ?_;simp;have hb:=NJ l;refine CI.p (Vp l hl) ?_;simp;unfold DX;generalize l7 l=n at*;by_cases hn:n=0
 ·simp[hn];exact aA
 ·have hn1:¬(n:Int)=0:=hn;have e0:(if 0<draw then draw else 0).tmod n=(max 0 draw).tmod n:=by rw[show(if 0<draw then draw else 0)=max 0 draw by omega]
  have h2:=Int.tmod_lt_of_pos (max 0 draw) (b:=n) (by omega);have h3:=Int.tmod_nonneg (a:=max 0 draw) n (by omega);simp[hn,e0];generalize(max 0 draw).tmod n=n0 at*;refine aH.inv mixed rfl (ι:={z:Nat×Int//z.1<=l.length/\JD l n0 z.1 z.2}) (λk=>[(7,int k.1.2),(18,aB (l.map wC)),(19,int l.length),(20,int k.1.1)]) (λk=>[]) 64 (λk=>l.length-k.1.1) ⟨(0,n0),by omega,⟨rfl,h3,Int.le_refl _⟩⟩ [] (by constructor<;>simp) ?_;rintro⟨⟨k,left⟩,hk1,hI⟩ B hB;simp only at hk1 hI;refine CI.n ?_;simp;refine aX (λh zz=>?_) (λh zz=>?_)<;>simp only[zz]<;>simp
  ·have hk:k<l.length:=by simpa using h
   obtain⟨w,hx,hr,hm,ht,hd⟩:=iU hk;have hw:=wr (k:=k) (by omega);have hwb:=NC w;have l0:=hI.l0;have l1:=hI.l1;obtain⟨s1,s2⟩:=hI.step hd;have w1:=wz (left-lT w);simp[hr,hw];refine CI.p (Bg w) ?_ (ha:=by simp[w1]);simp[w1];refine aX (λh3 zz=>?_) (λh3 zz=>?_)<;>simp only[zz]<;>simp
   ·exact aA (by simp[s1 h3])
   ·refine hB _ ⟨(k+1,left-lT w),hk,s2 h3⟩ [] ?_ (by simp;omega);constructor<;>simp[hw,w1]
  ·have hkl:k=l.length:=by simp at h;omega
   subst hkl;exact aA (by simp[hI.last])
theorem zdw (l:List Int)(draw:Int)(hl:l.length<=1000000):C0 438 [aB (l.map kP),int draw] (.aU [int (yS l draw).1,bool (yS l draw).2]):=by
 refine Ct.B func438 ?_;simp;by_cases hq:l=[]
 ·subst hq;simp;exact aA (by simp[yS])
 ·obtain⟨k,e1,e2,e3⟩:=Nv draw hq;have hz:¬(l.length:Int)=0:=by have:=vS.2 hq;omega
  simp[hq,e1,e2];exact aA (by simp[e3,e2])
open Go.Shelf Go.RowKit Go.Lib Go.Sort
set_option maxHeartbeats 4000000 in
theorem ziI :TG prog 568 3 98:=by
 intro blk cap k len news w W2 hk hlen hm A hA hsrc s1 s2 s3 hcl;have t22:prog.underlying 98=some (.slice 277):=by kernel_rfl
 obtain⟨i0,d0,z0,hi0,_,_,hti⟩:=jO UF;have hz1:i0.size=3:=(jW TI.sz hti).symm;obtain⟨W1,hW1⟩:∃W1,W1=w.drew.setCells blk (0+k*3) news:=⟨_,rfl⟩;rw[<-hW1]at hcl;have hW:Hid (W1=w.drew.setCells blk (0+k*3) news):=hW1;have hic:k<=cap:=by omega
 have hb1:(0:Int)<=(k:Int)+1:=by omega
 have hb2:(k:Int)+1<=len:=by omega
 have mixed:prog.follows .mixedOrders=true:=mixed;have hjc:k+1<=cap:=by omega
 clear hW1
 go_enter func568,ntmps568
 go_wp2_with fail
 go_region_law_o (refine step_append_room rfl (.tmp 22) (.tmp 25) 98 rfl 277 i0 3 t22 hi0 hz1 blk 0 k cap (by simp[Act.eval,Act.put]) A (len-(k+1)) (cap-(k+1)) news (by simp[Act.eval,Act.put]) s1.out hsrc.out s2.out (by omega) s3.out ?_;rw[<-hW.out])
 go_wp2
 go_ret
 refine⟨by rw[show len-1=k+(len-(k+1)) by omega];rfl,rfl⟩
set_option maxHeartbeats 4000000 in
theorem ziG :TG prog 245 13 117:=by
 intro blk cap k len news w W2 hk hlen hm A hA hsrc s1 s2 s3 hcl;have t22:prog.underlying 117=some (.slice 306):=by kernel_rfl
 obtain⟨i0,d0,z0,hi0,_,_,hti⟩:=jO UE;have hz1:i0.size=13:=(jW TI.sz hti).symm;obtain⟨W1,hW1⟩:∃W1,W1=w.drew.setCells blk (0+k*13) news:=⟨_,rfl⟩;rw[<-hW1]at hcl;have hW:Hid (W1=w.drew.setCells blk (0+k*13) news):=hW1;have hic:k<=cap:=by omega
 have hb1:(0:Int)<=(k:Int)+1:=by omega
 have hb2:(k:Int)+1<=len:=by omega
 have mixed:prog.follows .mixedOrders=true:=mixed;have hjc:k+1<=cap:=by omega
 clear hW1
 go_enter func245,ntmps245
 go_wp2_with fail
 go_region_law_o (refine step_append_room rfl (.tmp 22) (.tmp 25) 117 rfl 306 i0 13 t22 hi0 hz1 blk 0 k cap (by simp[Act.eval,Act.put]) A (len-(k+1)) (cap-(k+1)) news (by simp[Act.eval,Act.put]) s1.out hsrc.out s2.out (by omega) s3.out ?_;rw[<-hW.out])
 go_wp2
 go_ret
 refine⟨by rw[show len-1=k+(len-(k+1)) by omega];rfl,rfl⟩
end Go.Proofs.YtobcmagefgdgdaaGreatDoor
namespace Go.Proofs.YtobcmagefgdgdaaGreatDoor
open Go.AI Go.G Tryz
attribute [simp] ntmps563 results563 ntmps512 results512 ntmps514 results514 ntmps342 results342 ntmps522 results522
theorem Hs (p:cM)(id:Int)(h:p.aR.length<=1000000):C0 563 [st (fY p),int id] (int (kX p id)):=by
 refine Ct.DF func563 rfl mixed (by rw[ntmps563];simp) (CI.seq (CI.RX mixed (ι:=Unit) (λ_=>[(1,int id),(2,.ptr 64 0)]) (λ_=>[(64,.cells [int p.next,aB (p.aR.map iQ)] 100)]) 65 rfl (λB hB=>CI.run 99 400 rfl ?_) λ_=>?_))
 ·simp;refine hB _ () [] ?_;constructor<;>simp
 refine CI.jumps mixed (Plain.wH _ _ _ _ _) (ι:={k:Nat//k<=p.aR.length/\qG p.aR id p.aR.length=qG p.aR id k}) (λk=>[(1,int id),(2,.ptr 64 0),(5,int ((k.1:Int)-1))]) (λk=>[(64,.cells [int p.next,aB (p.aR.map iQ)] 100)]) 65 (λk=>k.1) ⟨p.aR.length,bY _,rfl⟩ rfl (λB hB=>?_) ?_
 ·refine CI.n ?_;simp;refine CI.p (QQ p (by omega)) ?_;simp;refine hB _ [] ?_;constructor<;>simp
 rintro⟨k,hk,e⟩ B hB;cases k with
 |zero=>
  refine CI.run 3 400 rfl ?_;simp;exact aA (by simp[kX,e,qG])
 |succ j=>
  have hj:j<p.aR.length:=by omega
  have e1:((j+1:Nat):Int)-1=j:=by omega
  have e2:p.aR[j]? =some p.aR[j]:=bO hj;generalize hs:p.aR[j]=s at*;by_cases hq:s.id=id
  ·have e3:qG p.aR id (j+1)=j:=by simp[qG,e2,hq]
   refine CI.run 3 400 rfl ?_;simp[e1,e2,hj,hs,hq];exact aA (by simp[kX,e,e3])
  ·have e3:qG p.aR id (j+1)=qG p.aR id j:=by simp[qG,e2,hq]
   have w1:IntKind.wrap .i64 ((j:Int)-1)=j-1:=wz _;refine CI.run 3 400 rfl ?_;simp[e1,e2,hj,hs,hq,w1];refine CI.RX mixed (ι:=Unit) (λ_=>[(1,int id),(2,.ptr 64 0),(5,int ((j:Int)-1))]) (λ_=>[(64,.cells [int p.next,aB (p.aR.map iQ)] 100)]) 65 rfl (λB' hB'=>CI.run 99 400 rfl ?_) λ_=>CI.goto ⟨rfl,hB _ ⟨j,by omega,by rw[e,e3]⟩ [] ?_ (by simp)⟩
   ·simp[w1];refine hB' _ () [] ?_;constructor<;>simp
   ·constructor<;>simp
theorem Qv (l:List dB)(hne:l≠[])(hl:l.length<=1000000):C1 407 [aB (l.map iQ)] [] [] (.own 64) [(64,.grow 3 (l.map iQ) 277)]:=by
 cases l with
 |nil=>exact absurd rfl hne
 |cons x l=>exact Qu x l (by simp at hl;omega)
theorem zdq (p:cM)(hp:mD p):C0 512 [st (fY p)] (.aU [st (fY (rD p).1),int (rD p).2.1,int (rD p).2.2]):=by
 refine Ct.B func512 ?_;simp;refine CI.p (GU p hp) ?_;simp;have hs:=v8 p;have hb:=EV (pJ.1 (xB p)).1;have hq0:=xB p;unfold rD;generalize eY p=q at*;refine CI.p (QQ q (by omega)) ?_;simp;obtain⟨nx,l⟩:=q;simp only at*;rcases QO l with e|⟨i,s,e⟩
 ·subst e;simp;exact aA (by simp[u6])
 ·subst e;have hs2:=(hb s (by simp)).2.1;have hs0:=OO (pJ.1 hq0).1 s (by simp);have hsl:i.length+1<=1000:=by simpa using hs
  have e1:(((i++[s]).length:Int)-1)=i.length:=by simp
  have e2:¬(i.length:Int)<0:=by omega
  by_cases h1:s.pins=10000
  ·simp[e1,e2,h1];exact aA (by simp[u6,h1])
  ·simp[e1,e2,h1];have w1:=wz (s.pins+1);refine CI.cc [] (Qv (i++[s]) (by simp) (by simp;omega)) ?_;simp;have hlt:(i.length:Int)<i.length+1:=by omega
   simp[hlt,YT,zaT,w1];refine dr ?_;exact aA (by simp[u6,h1])
theorem zhr (p:cM)(id:Int)(hp:mD p):C0 514 [st (fY p),int id] (.aU [aB (((yV p id).getD []).map aF),bool (yV p id).isSome]):=by
 refine Ct.B func514 ?_;simp;refine CI.p (GU p hp) ?_;simp;have hs:=v8 p;unfold yV BV;generalize eY p=q at*;refine CI.p (Hs q id (by omega)) ?_;simp;have hr:=WA q.aR id q.aR.length;change-1<=kX q id/\kX q id<q.aR.length at hr;by_cases h1:kX q id<0
 ·simp[h1];exact aA (by simp[h1])
 ·obtain⟨k,hk⟩:∃k:Nat,kX q id=k:=⟨(kX q id).toNat,by omega⟩;rw[hk]at h1 hr⊢;have hkl:k<q.aR.length:=by omega
  simp[hk,h1,hkl];exact aA (by simp[h1,hkl])
theorem ziJ (l:List (List D))(k:Nat)(hk:k<l.length):C1 568 [.own 0,int k,int ((k:Int)+1)] [] [(0,.grow 3 l 277)] (aB (l.eraseIdx k)) []:=
 Ct.Qe ziI (by kernel_rfl) UF rfl rfl rfl (by decide) hk
theorem zga (nx:Int)(l:List (List D))(hl:l.length<=1000000):C1 342 [.agg [int nx,.own 0]] [(0,.grow 3 l 277)] [] (int ((l.length:Int)-1)) []:=by
 refine Ct.B func342 ?_;simp;have w:=wz ((l.length:Int)-1);simp[w];exact⟨[],by constructor<;>simp[aI,aJ]⟩
theorem zch (p:cM)(id:Int)(hp:mD p):C0 522 [st (fY p),int id] (.aU [st (fY (tV p id).1),int (tV p id).2]):=by
 refine Ct.B func522 ?_;simp;refine CI.p (GU p hp) ?_;simp;have hs:=v8 p;have hb:=EV (pJ.1 (xB p)).1;have hq0:=xB p;unfold tV;generalize eY p=q at*;refine CI.p (Hs q id (by omega)) ?_;simp;have hr:=WA q.aR id q.aR.length;change-1<=kX q id/\kX q id<q.aR.length at hr;by_cases h1:kX q id<0
 ·simp[h1];exact aA (by simp[qD,h1])
 ·obtain⟨k,hk⟩:∃k:Nat,kX q id=k:=⟨(kX q id).toNat,by omega⟩;rw[hk]at h1 hr;have hkl:k<q.aR.length:=by omega
  have e2:q.aR[k]? =some q.aR[k]:=bO hkl;have hm:q.aR[k]∈q.aR:=mF hkl;generalize hsn:q.aR[k]=s at*;have hs2:=(hb s hm).2.1;have hs0:=OO (pJ.1 hq0).1 s hm;simp[hk,h1,hkl,hsn];refine CI.p (YI s) ?_;simp;by_cases h2:s.pins=0
  ·simp[h2];exact aA (by simp[qD,hk,h1,e2,h2])
  ·simp[h2];have w1:=wz (s.pins-1);have hne:q.aR≠[]:=by intro e;rw[e]at hkl;simp at hkl
   refine CI.cc [] (Qv q.aR hne (by omega)) ?_ (ha:=by simp[w1,hkl,hsn]) (hk:=by simp[w1,hkl,hsn]);simp[w1,hkl,hsn];have hll:((q.aR.map iQ).set k [iD s.id,iD (s.pins-1),lD (s.l.map aF)]).length<=1000000:=by simp;omega
   refine CI.cc [1472] (zga q.next ((q.aR.map iQ).set k [iD s.id,iD (s.pins-1),lD (s.l.map aF)]) hll) ?_;simp;by_cases h3:(k:Int)=q.aR.length-1
   ·have hA:qD q id=(⟨q.next,q.aR.set k {s with pins:=s.pins-1}⟩,0):=by
     unfold qD;rw[aT (by omega),hk,M1,e2];simp only[h2,iO];rw[aT (by omega)]
    rw[hA];simp[h3];have h5:q.aR.length-1=k:=by omega
    exact aA (by simp[h5])
   ·simp[h3,hkl];refine CI.p (YI {s with pins:=s.pins-1}) ?_;simp;by_cases h4:s.pins-1=0
    ·have hA:qD q id=(⟨q.next,q.aR.eraseIdx k⟩,0):=by
      unfold qD;rw[aT (by omega),hk,M1,e2];simp only[h2,iO];rw[aZ (by omega)]
     rw[hA];have w2:=wz ((k:Int)+1);simp[h4,w2];refine CI.cc [1472] (ziJ ((q.aR.map iQ).set k [iD s.id,iD 0,lD (s.l.map aF)]) k (by simpa using hkl)) ?_;simp;exact aA (by simp[Y6,List.eraseIdx_set_eq])
    ·have hA:qD q id=(⟨q.next,q.aR.set k {s with pins:=s.pins-1}⟩,0):=by
      unfold qD;rw[aT (by omega),hk,M1,e2];simp only[h2,iO];rw[aT (by omega)]
     rw[hA];simp[h4];exact aA
attribute [simp] ntmps432 results432 ntmps439 results439
theorem zj0 (s:bS)(h:dL s):C0 432 [st (dU s)] (.aU [st (dU (pT s).1),int (pT s).2.1,int (pT s).2.2]):=by
 refine Ct.B func432 ?_;simp;refine CI.p (KA s h) ?_;simp;unfold pT;have ho:=h.sound;generalize fF s=q at ho⊢;refine CI.p (zdq q.p ho.pins) ?_;simp;exact aA
theorem zid (s:bS)(id:Int)(h:dL s):C0 439 [st (dU s),int id] (.aU [st (dU (nX s id).1),aB ((nX s id).2.1.map cA),int (nX s id).2.2]):=by
 refine Ct.B func439 ?_;simp;refine CI.p (KA s h) ?_;simp;unfold nX;have ho:=h.sound;have ht:=UB (KB s);generalize fF s=q at ho ht⊢;refine CI.p (zch q.p id ho.pins) ?_;simp;have o2:=PS id ho.pins;unfold zZ;dsimp only;generalize tV q.p id=R at o2⊢;refine CI.p (Q3 R.1 o2) ?_;simp;refine CI.p (Q3 q.p ho.pins) ?_;simp;refine CI.p (Y7 (gI R.1) (gI q.p) (by have:=Q4 o2;omega)) ?_;simp;refine dr ?_;refine bM (λh1=>?_) (λh1=>?_)<;>simp only[h1]<;>simp
 ·have h1':gI R.1=gI q.p:=by simpa using h1
  exact aA (by simp[h1'])
 have h1':¬gI R.1=gI q.p:=by simpa using h1
 refine bM (λh2=>?_) (λh2=>?_)<;>simp only[h2]<;>simp
 ·have h2':q.up=false:=by simpa using h2
  exact aA (by simp[h1',h2'])
 have h2':q.up=true:=by simpa using h2
 refine CI.p (LI {q with p:=R.1}) ?_;simp;refine bQ (λh3=>?_) (λh3=>?_)<;>simp only[h3]<;>simp
 ·exact aA (by simp[h1',h2',h3])
 ·refine CI.p (G7 {q with p:=R.1} ⟨3,q.aM,0,0,0,[],[],0,[],[]⟩ (ho.vW o2) ht.2 ht.1) ?_;simp;refine dr ?_;exact aA (by simp[h1',h2',h3,oT])
attribute [simp] ntmps513 results513 ntmps433 results433 ntmps242 results242 ntmps431 results431 ntmps334 results334 ntmps244 results244 ntmps335 results335 ntmps340 results340 ntmps434 results434 ntmps435 results435 ntmps336 results336 ntmps337 results337 ntmps338 results338 ntmps339 results339 ntmps243 results243
theorem zfR (r:aC)(n:Int):C0 513 [st (aF r),.d (.bE [iD n])] (bool (decide (r.kind=0)&&decide (r.port=n))):=by
 refine Ct.B func513 ?_;simp
 repeat' first
  | (refine bM (λh=>?_) (λh=>?_)<;>simp only[h]<;>simp[h])
  | (refine bQ (λh=>?_) (λh=>?_)<;>simp only[h]<;>simp[h])
  | (refine⟨(show jG _ _ from by decide+kernel),?_⟩)
  |fail
 all_goals exact aA (by simp[*])
theorem zfQ (l:List aC)(n:Int)(hl:l.length<=9223372036854775807):C0 433 [aB (l.map aF),int n] (.aU [st (aF ((yN l n).getD fV)),bool (yN l n).isSome]):=by
 refine Ct.BS func433 mixed 1 400 ?_;simp;refine CI.s (tm:=[(0,aB (l.map aF)),(3,.d (.bE [iD n])),(4,.ptr 128 0),(5,bool false)]) (mm:=[(128,.cells [int 0,str ⟨#[]⟩,int 0,int 0,str ⟨#[]⟩,aB [],aB []] 174)]) (nx:=129) [] [64] (by constructor<;>simp) ?_;refine CI.n ?_;simp;refine CI.p (Q1 l (.fn (.func 513) [] [.bE [iD n]]) (λr=>decide (r.kind=0)&&decide (r.port=n)) (λr hr=>bN.nZ (zfR r n) call513 rfl rfl) hl) ?_;simp;rcases IP (λr:aC=>decide (r.kind=0)&&decide (r.port=n)) l with⟨h1,h2⟩|⟨i,x,h1,h2,h3,h4⟩
 ·have e:yN l n=none:=h2;simp[h1];exact aA (by simp[e,fV])
 ·have e:yN l n=some x:=h4;have hx:l[i]=x:=by rw[bO h2]at h3;exact mW h3
  have h0:¬(i:Int)<0:=by omega
  simp[h1,h0,h2,h3,hx];exact aA (by simp[e])
theorem Ku (a:G.Ask):C0 242 [st (IY a)] (st (oH (nH a))):=by
 refine Ct.B func242 ?_;simp;exact aA (by simp[nH,cU])
theorem Ew (r:lQ):C0 431 [st (oH r)] (bool (lV r)):=by
 refine Ct.B func431 ?_;simp
 repeat' first
  | (refine bM (λh=>?_) (λh=>?_)<;>simp only[h]<;>simp[h])
  | (refine bQ (λh=>?_) (λh=>?_)<;>simp only[h]<;>simp[h])
  | (refine⟨(show jG _ _ from by decide+kernel),?_⟩)
  |fail
 all_goals exact aA (by simp[*,lV])
theorem Dg (r:lQ):C0 334 [st (oH r)] (st (oH (mL r))):=by
 refine Ct.B func334 ?_;simp;refine CI.p (Ew r) ?_;simp;refine aX (λh1 zz=>?_) (λh1 zz=>?_)<;>simp only[zz]<;>simp
 ·refine CI.p (Ku r.a) ?_;simp;exact aA (by simp[mL,h1])
 ·exact aA (by simp[mL,h1])
theorem VP (r:lQ):C0 244 [st (oH r)] (bool (pK r)):=by
 refine Ct.B func244 ?_;simp;refine CI.p (Dg r) ?_;simp;exact aA (by simp[pK])
theorem Uc (s:bS)(h:dL s):C0 335 [st (dU s)] (st (dU (fF s))):=by
 refine Ct.B func335 ?_;simp;refine CI.p (Eo s h) ?_;simp;refine aX (λh1 zz=>?_) (λh1 zz=>?_)<;>simp only[zz]<;>simp
 ·refine CI.p (wK s.w.c.cap s.iT.m) ?_;simp;exact aA (by simp[fF,h1])
 ·exact aA (by simp[fF,h1])
abbrev w9 (w:jN):List (Nat×aY):=[(0,.cells ((Az w).map .d) 469)]
theorem B8 (w:jN)(a:y6)(h:dL w.s):C1 340 [.ptr 0 0,st (Z4 a)] [] (w9 w) (.aU []) (w9 (nY w a)):=by
 refine Ct.B func340 ?_;simp;by_cases h1:w.r.stage=0
 ·simp[h1];refine dr ?_;exact⟨[],by constructor<;>simp[aI,aJ,nY,h1]⟩
 ·simp[h1];refine CI.p (zid w.s w.r.id h) ?_;simp;refine dr ?_;first| (refine⟨[],?_,?_,?_,?_,?_,?_,?_⟩<;>simp[aI,aJ,nY,h1];done)| (refine dr ?_;refine⟨[],?_,?_,?_,?_,?_,?_,?_⟩<;>simp[aI,aJ,nY,h1])
theorem Dl (w:jN)(h:dL w.s):C1 434 [.ptr 0 0] (w9 w) [] (aB ((nO w).map aF)) []:=by
 refine Ct.B func434 ?_;simp;refine CI.p (zhr w.s.p w.r.id h.pins) ?_;simp;refine dr ?_;exact⟨[],by constructor<;>simp[aI,aJ,nO]⟩
theorem YR (w:jN)(k_:Int)(n:Str)(h:dL w.s):C1 435 [.ptr 0 0,int k_,str n] (w9 w) [] (.aU [st (aF ((qO w k_ n).getD fV)),bool (qO w k_ n).isSome]) []:=by
 refine Ct.B func435 ?_;simp;have hl:=LH h.pins w.r.id;refine CI.cc [0] (Dl w h) ?_;simp;refine CI.p (YS (nO w) ⟨k_,n⟩ (by unfold nO;omega)) ?_;simp;exact⟨[],by constructor<;>simp[aI,aJ,qO]⟩
theorem zj1 (w:jN)(h:dL w.s):C1 336 [.ptr 0 0] [] (w9 w) (.aU []) (w9 (vP w)):=by
 refine Ct.B func336 ?_;simp;refine CI.p (zj0 w.s h) ?_;simp;refine aX (λh1 zz=>?_) (λh1 zz=>?_)<;>simp only[zz]<;>simp
 ·refine CI.cc [0] (B8 w ⟨0,⟨#[]⟩,0⟩ h) ?_;simp;refine⟨[],?_,?_,?_,?_,?_,?_,?_⟩<;>simp[aI,aJ,vP,h1]
 ·refine⟨[],?_,?_,?_,?_,?_,?_,?_⟩<;>simp[aI,aJ,vP,h1]
theorem zfO (w:jN)(h:dL w.s):C1 337 [.ptr 0 0] [] (w9 w) (.aU []) (w9 (zV w)):=by
 refine Ct.B func337 ?_;simp;refine CI.cc [0] (Dl w h) ?_;simp;have hl:=LH h.pins w.r.id;refine CI.p (zfQ (nO w) w.r.a.port (by unfold nO;omega)) ?_;simp;refine dr ?_;cases e:yN (nO w) w.r.a.port with
 |none=>
  simp[e];refine CI.cc [0] (B8 w ⟨1,⟨#[]⟩,0⟩ h) ?_;simp;exact⟨[],by constructor<;>simp[aI,aJ,zV,e]⟩
 |some x=>
  simp[e];exact⟨[],by constructor<;>simp[aI,aJ,zV,e]⟩
theorem zb2 (w:jN)(h:dL w.s)(hs:kG w.s.p)(ha:(bs w.r.a.host).length<=1000000)(hp:(bs w.r.a.path).length<=1000000):C1 338 [.ptr 0 0] [] (w9 w) (.aU []) (w9 (yG w)):=by
 refine Ct.B func338 ?_;simp;refine CI.cc [0] (YR w 1 w.r.yH h) ?_;simp;have hf:AM ((qO w 1 w.r.yH).getD fV):=RA (hs.get w.r.id) _;unfold yG;dsimp only;generalize qO w 1 w.r.yH=x at hf⊢;refine CI.p (zc0 (x.getD fV).rules w.r.a.host w.r.a.path ha hp hf.each hf.rules) ?_;simp;refine dr ?_;have hc:=Fq hf w.r.a.host w.r.a.path;generalize tT (x.getD fV).rules w.r.a.host w.r.a.path=u at hc⊢;cases x with
 |none=>
  simp;refine CI.cc [0] (B8 w ⟨2,⟨#[]⟩,0⟩ h) ?_;simp;exact⟨[],by constructor<;>simp[aI,aJ]⟩
 |some x=>
  simp;cases hu:u.2 with
  |false=>
   simp[hu];refine CI.cc [0] (B8 w ⟨2,⟨#[]⟩,0⟩ h) ?_;simp;exact⟨[],by constructor<;>simp[aI,aJ,hu]⟩
  |true=>
   simp[hu];refine CI.p (zji u.1.split w.r.a.first hc) ?_;simp;refine dr ?_;refine aX (λh3 zz=>?_) (λh3 zz=>?_)<;>simp only[zz]<;>simp
   ·refine CI.cc [0] (B8 w ⟨0,⟨#[]⟩,0⟩ h) ?_;simp;refine⟨[],?_,?_,?_,?_,?_,?_,?_⟩<;>simp[aI,aJ,hu,h3]
   ·refine⟨[],?_,?_,?_,?_,?_,?_,?_⟩<;>simp[aI,aJ,hu,h3]
theorem zjh (w:jN)(h:dL w.s)(hs:kG w.s.p):C1 339 [.ptr 0 0] [] (w9 w) (.aU []) (w9 (yY w)):=by
 refine Ct.B func339 ?_;simp;refine CI.cc [0] (YR w 2 w.r.fT h) ?_;simp;unfold yY;dsimp only;generalize qO w 2 w.r.fT=c;refine CI.cc [0] (YR w 3 (c.getD fV).to h) ?_;simp;have hf:AM ((qO w 3 (c.getD fV).to).getD fV):=RA (hs.get w.r.id) _;generalize qO w 3 (c.getD fV).to=e at hf⊢;refine CI.p (zdw (e.getD fV).bH w.r.a.other hf.bH) ?_;simp;refine dr ?_;generalize yS (e.getD fV).bH w.r.a.other=u;cases c with
 |none=>
  simp;refine CI.cc [0] (B8 w ⟨0,⟨#[]⟩,0⟩ h) ?_;simp;exact⟨[],by constructor<;>simp[aI,aJ]⟩
 |some c=>
  simp;cases e with
  |none=>
   simp;refine CI.cc [0] (B8 w ⟨0,⟨#[]⟩,0⟩ h) ?_;simp;exact⟨[],by constructor<;>simp[aI,aJ]⟩
  |some e=>
   simp;cases h3:u.2 with
   |false=>
    simp[h3];refine CI.cc [0] (B8 w ⟨0,⟨#[]⟩,0⟩ h) ?_;simp;exact⟨[],by constructor<;>simp[aI,aJ,h3]⟩
   |true=>
    simp[h3];exact⟨[],by constructor<;>simp[aI,aJ,h3]⟩
theorem Ya (r:lQ)(s:bS)(h:dL s)(hs:kG s.p)(ha:(bs r.a.host).length<=1000000)(hp:(bs r.a.path).length<=1000000):C0 243 [st (oH r),st (dU s)] (.aU [st (oH (mH r s).r),st (dU (mH r s).s),aB ((mH r s).told.map cA)]):=by
 refine Ct.BS func243 mixed 2 400 ?_;simp;refine CI.pS (Dg r) call334 2 ?_;simp;refine CI.pS (Uc s h) call335 2 ?_;simp;refine dr ?_;unfold mH sS;have ho:=h.sound;have hso:kG (fF s).p:=hs.fF;have hq:=Dh r;generalize fF s=x at ho hso⊢;generalize mL r=q at hq⊢;refine CI.s (tm:=[(7,.ptr 704 0),(4,.ptr 192 0),(5,.ptr 256 0),(6,aB [])]) (mm:=[(704,.cells ((Az ⟨q,x,[]⟩).map .d) 469),(192,.cells ((oH ⟨⟨0,⟨#[]⟩,⟨#[]⟩,0,0⟩,0,0,⟨#[]⟩,⟨#[]⟩,cU⟩).map .d) 304),(256,.cells ((dU ⟨0,0,false,⟨0,0,0,0,0⟩,⟨0,0,0,0⟩,⟨⟨0,[]⟩,false,[]⟩,⟨0,[]⟩⟩).map .d) 102)]) (nx:=768) [] [] (by constructor<;>simp[cU]) ?_;refine CI.n ?_;simp;refine aX (λh1 zz=>?_) (λh1 zz=>?_)<;>simp only[zz]<;>simp
 ·refine CI.cc [704] (zj1 ⟨q,x,[]⟩ ho) ?_;simp;refine dr ?_;exact aA (by simp[h1])
 refine aX (λh2 zz=>?_) (λh2 zz=>?_)<;>simp only[zz]<;>simp
 ·refine CI.cc [704] (zfO ⟨q,x,[]⟩ ho) ?_;simp;refine dr ?_;exact aA (by simp[h1,h2])
 refine aX (λh3 zz=>?_) (λh3 zz=>?_)<;>simp only[zz]<;>simp
 ·refine CI.cc [704] (zb2 ⟨q,x,[]⟩ ho hso (by rw[hq];exact ha) (by rw[hq];exact hp)) ?_;simp;refine dr ?_;exact aA (by simp[h1,h2,h3])
 refine aX (λh4 zz=>?_) (λh4 zz=>?_)<;>simp only[zz]<;>simp
 ·refine CI.cc [704] (zjh ⟨q,x,[]⟩ ho hso) ?_;simp;refine dr ?_;exact aA (by simp[h1,h2,h3,h4])
 refine aX (λh5 zz=>?_) (λh5 zz=>?_)<;>simp only[zz]<;>simp
 ·refine CI.cc [704] (B8 ⟨q,x,[]⟩ q.out ho) ?_;simp;refine dr ?_;exact aA (by simp[h1,h2,h3,h4,h5])
 ·refine dr ?_;exact aA (by simp[h1,h2,h3,h4,h5])
attribute [simp] ntmps426 results426 ntmps425 results425 ntmps424 results424 ntmps511 results511 ntmps427 results427 ntmps429 results429 ntmps428 results428 ntmps430 results430 ntmps333 results333 ntmps240 results240 ntmps241 results241 ntmps170 results170 ntmps246 results246 ntmps171 results171
theorem Jz (l:List G.Task)(S:List Int)(n:Int)(ht1:∀t∈l,1<=t.n/\t.n<=n)(hd1:(S++l.map Task.n).Nodup)(hl:l.length<=1000000):C1 426 [aB (l.map jP),.own 0,int n] [] [(0,.map false [.int] false (vF S))] (bool true) [(0,.map false [.int] false (vF (S++l.map Task.n)))]:=by
 refine Ct.B func426 ?_;simp;refine aH.V (l) (λk=>[(1,.own 0),(2,int n),(9,aB (l.map jP)),(10,int l.length),(11,int k.1)]) (λk=>[(0,.map false [.int] false (vF (S++(l.take k.1).map Task.n)))]) 64 (λk hk1 B hB=>?_);simp;rcases bC hk1 with⟨x,hk,hx,hr,hm,ht,hd,hw,h⟩|rfl
 ·simp[h,hr,hw];have hb:=ht1 x hm;have hL:x.n∉S++(l.take k).map Task.n:=Pb hd1 hr;have c1:¬x.n<1:=by omega
  have c2:¬n<x.n:=by omega
  have c3:vF (S++List.take k (List.map Task.n l)) [.int .i64 x.n]=none:=by rw[QJ,<-zB,aT hL]
  simp[c1,c2,c3];exact hB hk (by constructor<;>simp[hw,ht])
 ·simp;exact⟨[],by constructor<;>simp[aI,aJ]⟩
theorem zi4 (a b:G.Task)(ha:1<=a.n/\a.n<=100000)(hb:1<=b.n/\b.n<=100000):C0 425 [st (jP a),st (jP b)] (int (a.n-b.n)):=by
 refine Ct.B func425 ?_;simp;have w1:=wz (a.n-b.n);simp[w1];exact aA
theorem Zk (l:List G.Task)(hl:l.length<=1000000)(hs:l.Pairwise λa b=>a.n<b.n)(h:∀t∈l,1<=t.n/\t.n<=100000):C0 424 [aB (l.map jP),.d (dE 425)] (bool true):=by
 refine Ct.B func424 ?_;simp;have w0:=wz ((l.length:Int)-1);refine aH.inv mixed rfl (ι:={k:Nat//k<=l.length}) (λk=>[(0,aB (l.map jP)),(1,.d (dE 425)),(5,int ((k.1:Int)-1))]) (λk=>[]) 64 (λk=>k.1) ⟨l.length,bY _⟩ [] (by constructor<;>simp[w0]) ?_;rintro⟨k,hk⟩ B hB;refine CI.n ?_;simp;refine aX (λh1 zz=>?_) (λh1 zz=>?_)<;>simp only[zz]<;>simp
 ·obtain⟨j,rfl⟩:∃j,k=j+2:=⟨k-2,by omega⟩;have hk1:j+1<l.length:=by omega
  have hk2:j<l.length:=by omega
  have hp:=MR.1 hs j (j+1) hk2 hk1 (by omega);have hx:=h _ (mF hk1);have hy:=h _ (mF hk2);have hr1:l[j+1]? =some l[j+1]:=bO hk1;have hr2:l[j]? =some l[j]:=bO hk2;generalize hgx:l[j+1]=x at hp hx hr1;generalize hgy:l[j]=y at hp hy hr2;have e1:(j:Int)+2-1=j+1:=by omega
  have e0:(1:Int)<=(j:Int)+2:=by omega
  have e2:(j:Int)+1<l.length:=by omega
  have w1:IntKind.wrap .i64 (j:Int)=j:=wz _;simp[e1,e0,e2,hr1,hr2,w1,hk1,hk2,hgx,hgy];refine CI.ff (bN.of (zi4 x y hx hy) call425 rfl rfl) rfl rfl rfl ?_;simp;refine dr ?_;have e3:¬x.n-y.n<0:=by omega
  simp[e3];refine hB _ ⟨j+1,by omega⟩ [] ?_ (by simp);constructor<;>simp[w1,e1]
 ·exact aA
theorem zgG (l:List G.Task)(kf:D)(p:G.Task->Bool)(hf:∀x∈l,bN prog (.d kf) [st (jP x)] (bool (p x)))(hl:l.length<=9223372036854775807):C0 511 [aB (l.map jP),.d kf] (int (iZ p l)):=by
 refine Ct.B func511 ?_;simp;refine aH.inv mixed rfl (ι:={k:Nat//k<=(l).length/\(l.take k).all (λx=>!p x)=true}) (λk=>[(0,aB (l.map jP)),(1,.d kf),(7,int l.length),(8,int k.1)]) (λk=>[]) 64 (λk=>(l).length-k.1) ⟨0,by omega,by simp⟩ [] (by constructor<;>simp) ?_;rintro⟨k,hk1,hi⟩ B hB;refine CI.n ?_;simp;rcases bC hk1 with⟨r,hk,hx,hr,hm,ht,hd,hw,h⟩|rfl
 ·simp[h,hr,hw];refine CI.ff (hf r hm) rfl rfl rfl ?_;simp;refine bQ (λhp=>?_) (λhp=>?_)<;>simp only[hp]<;>simp
  ·exact aA (by simp[yR hi hr hp])
  ·refine hB _ ⟨k+1,by omega,by simp[ht,hi,hp]⟩ [] ?_ (by simp;omega);constructor<;>simp[hw,ht,hp]
 ·simp;rw[bX]at hi;exact aA (by simp[yQ (λx hx=>by have:=dP.1 hi x hx;simpa using this)])
theorem Sd (l:List G.Task)(kf:D)(p:G.Task->Bool)(hf:∀x∈l,bN prog (.d kf) [st (jP x)] (bool (p x)))(hl:l.length<=9223372036854775807):C0 427 [aB (l.map jP),.d kf] (bool (l.any p)):=by
 refine Ct.B func427 ?_;simp;refine CI.p (zgG l kf p hf hl) ?_;simp;rw[DR];exact aA
theorem zbA (t:G.Task):C0 429 [st (jP t)] (bool (lV t.r&&pK t.r)):=by
 refine Ct.B func429 ?_;simp;refine CI.p (Ew t.r) ?_;simp;refine bM (λh1=>?_) (λh1=>?_)<;>simp only[h1]<;>simp
 ·refine CI.p (VP t.r) ?_;simp;exact aA (by simp[h1])
 ·exact aA (by simp[h1])
theorem Xk (t:G.Task):C0 428 [st (jP t)] (bool (!(lV t.r&&pK t.r))):=by
 refine Ct.B func428 ?_;simp;refine CI.p (zbA t) ?_;simp;exact aA
theorem zbz (t:G.Task):C0 430 [st (jP t)] (bool (pK t.r)):=by
 refine Ct.B func430 ?_;simp;refine CI.p (VP t.r) ?_;simp;exact aA
theorem zbd (p:nK)(h:AL p):C0 333 [st (rC p)] (bool true):=by
 refine Ct.B func333 ?_;simp;have c0:=h.n0;have c1:=h.n1;have c2:=h.lt;have c3:=h.ld;have c4:¬p.next<0:=by omega
 have c5:¬100000<p.next:=by omega
 have c6:¬(64:Int)<p.tasks.length:=by omega
 have c7:¬(1000:Int)<p.done.length:=by omega
 simp[c4,c5,c6,c7];refine CI.p (Zk p.tasks (by omega) h.up (λt ht=>by have:=h.rt t ht;omega)) ?_;simp;refine CI.cc [1472] (Jz p.tasks [] p.next h.rt (by simpa using W4 h.up) (by omega)) ?_ (ha:=by simp[K3]) (hk:=by simp[K3]);simp[K3];refine CI.cc [1472] (Jz p.done (p.tasks.map Task.n) p.next h.rd (zeN h) (by omega)) ?_;simp;refine CI.p (Sd p.tasks (dE 428) (λt=>!(lV t.r&&pK t.r)) (λt _=>bN.of (Xk t) call428 rfl rfl) (by omega)) ?_;simp;have e1:p.tasks.any (λt=>!lV t.r|| !pK t.r)=false:=by
  rw[JV];intro t ht;have:=h.run t ht;simp[this.1,this.2]
 have e2:p.done.any (λt=>pK t.r)=false:=by
  rw[JV];intro t ht;have:=h.over t ht;simp[this]
 simp[e1];refine CI.p (Sd p.done (dE 430) (λt=>pK t.r) (λt _=>bN.of (zbz t) call430 rfl rfl) (by omega)) ?_;simp;exact aA (by simp[e2])
theorem Di (p:nK)(h:AL p):C0 240 [st (rC p)] (st (rC p)):=by
 refine Ct.B func240 ?_;simp;refine CI.p (zbd p h) ?_;simp;exact aA
theorem zi9 (x:G.Task)(l:List G.Task)(hl:l.length<=1000000):C1 241 [aB ((x::l).map jP)] [] [] (.own 64) [(64,.grow 13 ((x::l).map jP) 306)]:=by
 refine Ct.B func241 ?_;simp;refine⟨by omega,?_⟩;exact⟨[(64,384)],by constructor<;>simp[aI,aJ]⟩
theorem zje :C1 241 [aB []] [] [] (.own 64) [(64,.grow 13 [] 306)]:=by
 refine Ct.BS func241 mixed 2 400 ?_;simp;refine⟨?_,?_⟩
 ·refine CI.RX mixed (ι:=Unit) (λ_=>[(2,.d (.v (.slice none 0 0)))]) (λ_=>[]) 65 rfl (λB hB=>?_) (λ_=>?_)
  ·refine CI.n ?_;simp;refine hB _ () [] ?_;constructor<;>simp
  ·refine CI.gH 2 13 306 rfl rfl ?_;refine CI.n ?_;simp;exact⟨[(64,65)],by constructor<;>simp[aI,aJ]⟩
 ·skip
  exact⟨[(64,384)],by constructor<;>simp[aI,aJ]⟩
theorem R5 (l:List G.Task)(hl:l.length<=1000000):C1 241 [aB (l.map jP)] [] [] (.own 64) [(64,.grow 13 (l.map jP) 306)]:=by
 cases l with
 |nil=>exact zje
 |cons x l=>exact zi9 x l (by simp at hl;omega)
theorem ziH (l:List (List D))(k:Nat)(hk:k<l.length):C1 245 [.own 0,int k,int ((k:Int)+1)] [] [(0,.grow 13 l 306)] (aB (l.eraseIdx k)) []:=
 Ct.Qe ziG (by kernel_rfl) UE rfl rfl rfl (by decide) hk
theorem Yj (p:nK)(a:G.Ask)(h:AL p):C0 170 [st (rC p),st (IY a)] (.aU [st (rC (tR p a).1),int (tR p a).2.1,int (tR p a).2.2]):=by
 refine Ct.B func170 ?_;simp;refine CI.p (Di p h) ?_;simp;have c0:=h.n0;have c1:=h.n1;have c2:=h.lt;by_cases h1:64<=p.tasks.length
 ·have h1':(64:Int)<=p.tasks.length:=by omega
  simp[h1'];exact aA (by simp[tR,h1])
 ·have h1':¬(64:Int)<=p.tasks.length:=by omega
  by_cases h2:p.next=100000
  ·simp[h1',h2];exact aA (by simp[tR,h1,h2])
  ·have w1:=wz (p.next+1);simp[h1',h2,w1];refine CI.cc [] (R5 p.tasks (by omega)) ?_;simp;refine CI.p (Ku a) ?_;simp;refine⟨by omega,?_⟩;refine dr ?_;refine dr ?_;exact aA (by simp[tR,h1,h2,nH])
theorem zdI (l:List G.Task)(t:G.Task)(hl:l.length<=1000000):C0 246 [aB (l.map jP),st (jP t)] (aB ((xG l t).map jP)):=by
 refine Ct.B func246 ?_;simp;have w1:=wz ((l.length:Int)-1000);have w2:=wz ((l.length:Int)-1000+1);by_cases h1:l.length<=999
 ·have h2:¬(0:Int)<(l.length:Int)-1000+1:=by omega
  have h3:l.length-999=0:=by omega
  simp[w1,w2,h2];refine CI.cc [] (R5 l hl) ?_;simp;refine⟨by omega,?_⟩;refine dr ?_;exact aA (by simp[xG,h3])
 ·obtain⟨m,h3⟩:∃m,l.length=m+999:=⟨l.length-999,by omega⟩;have h2:(0:Int)<(l.length:Int)-1000+1:=by omega
  have h4:(l.length:Int)-1000+1=(m:Int):=by omega
  have h5:0<m:=by omega
  have h6:(m:Int)<=l.length:=by omega
  have w3:IntKind.wrap .i64 (m:Int)=m:=wz _;have h7:l.length-999=m:=by omega
  have h8:l.drop m=l.drop (l.length-999):=by rw[h7]
  simp[w1,w3,h4,h5,h6];rw[<-List.map_drop];refine CI.cc [] (R5 (l.drop m) (by simp;omega)) ?_;simp;refine⟨⟨zfV m (by simp),by omega⟩,?_⟩;refine dr ?_;exact aA (by simp[xG,h7])
theorem zdu (p:nK)(s:bS)(draw:Int)(h:AL p)(ho:dL s)(hs:kG s.p)(ha:∀t∈p.tasks,(bs t.r.a.host).length<=1000000/\(bs t.r.a.path).length<=1000000):C0 171 [st (rC p),st (dU s),int draw] (.aU [st (rC (kK p s draw).1),st (dU (kK p s draw).2.1),aB ((kK p s draw).2.2.1.map cA),int (kK p s draw).2.2.2]):=by
 refine Ct.B func171 ?_;simp;refine CI.p (Di p h) ?_;simp;have c2:=h.lt;have c3:=h.ld;by_cases h1:p.tasks=[]
 ·have e:kK p s draw=(⟨p.next,[],p.done⟩,s,[],10):=by
   obtain⟨n,T,D⟩:=p;simp only at h1;subst h1;rfl
  rw[e];simp[h1];refine dr ?_;exact aA
 ·have hl:0<p.tasks.length:=vS.2 h1;obtain⟨e1,e2⟩:=Hz p draw hl;have hr:p.tasks[qI p draw]? =some p.tasks[qI p draw]:=bO e2;have hm:p.tasks[qI p draw]∈p.tasks:=mF e2;unfold kK;generalize qI p draw=k at*;generalize hg:p.tasks[k]=t at*;rw[hr];dsimp only;simp[h1,e1,e2,hg];obtain⟨ha1,ha2⟩:=ha t hm;refine CI.p (Ya t.r s ho hs ha1 ha2) ?_;simp;generalize mH t.r s=w;refine CI.cc [] (R5 p.tasks (by omega)) ?_ (ha:=by simp[e2]) (hk:=by simp[e2]);simp[e2];refine CI.p (VP w.r) ?_;simp;cases h2:pK w.r with
  |true=>
   simp[h2];refine dr ?_;exact aA (by simp[h2])
  |false=>
   have w1:=wz ((k:Int)+1);simp[h2,w1];refine CI.cc [2880] (ziH ((p.tasks.map jP).set k (jP ⟨t.n,w.r⟩)) k (by simpa using e2)) ?_;simp;refine CI.p (zdI p.done ⟨t.n,w.r⟩ (by omega)) ?_;simp;refine dr ?_;exact aA (by simp[h2,Y6,List.eraseIdx_set_eq])
end Go.Proofs.YtobcmagefgdgdaaGreatDoor
