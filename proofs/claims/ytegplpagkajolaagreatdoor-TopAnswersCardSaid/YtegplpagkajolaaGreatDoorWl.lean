/-
  LAYERS 18 to 23: the walks of picking, of pins by their places, of requests, of their pool.
-/
import Derived.Test.YtegplpagkajolaaGreatDoorWk
import Derived.Test.YtegplpagkajolaaGreatDoorPq
import Derived.Test.YtegplpagkajolaaGreatDoorWb
import Derived.Test.YtegplpagkajolaaGreatDoorFd
import Derived.Shelf.Lays2
import Derived.Shelf.RegionOpenPlain
import Derived.WalkKit
import Derived.Deep.LoopGhost
import Derived.Deep.RegionLaw
import Derived.Lib.Walk
import Derived.Sort.WalkB12
import Derived.Sort.EncStr
import Derived.Lib.SliceRun
import Derived.Lib.SlicesDelete
import Derived.Test.YtegplpagkajolaaGreatDoorWi
set_option linter.unusedSimpArgs false
set_option linter.unusedVariables false
set_option maxRecDepth 100000
set_option maxHeartbeats 8000000
namespace Go.Proofs.YtegplpagkajolaaGreatDoor
open Go.AI Go.G Tryz
attribute [simp] ntmps256 results256 ntmps193 results193 ntmps257 results257 ntmps194 results194 ntmps138 results138 ntmps139 results139 ntmps259 results259 ntmps196 results196 ntmps140 results140
theorem zdo (s p:cH):Ct prog 255 [str s,str p] [] [] (bool (tD s p)) []:=hasPrefix s p
theorem WQ (s p:cH):Ct prog 192 [str s,str p] [] [] (bool (tD s p)) []:=Oq s p
theorem zic (s p:cH):Ct prog 256 [str s,str p] [] [] (.bI [str (yO s p),bool (tD s p)]) []:=by
 refine Ct.B func256 ?_;simp;have hs:=mD s;have hp:=mD p;refine CI.p (zdo s p) ?_;simp;unfold yO;cases h1:tD s p with
 |false=>
  simp[h1];exact aB (by simp) rfl
 |true=>
  have h1':(bs p).length<=(bs s).length:=by
   simp only[tD,bN,cP]at h1;exact h1.1
  simp[h1,hs,hp];refine⟨by omega,?_⟩;exact aB (by simp) rfl
theorem Re (s p:cH):Ct prog 193 [str s,str p] [] [] (.bI [str (yO s p),bool (tD s p)]) []:=by
 refine Ct.B func193 ?_;simp;refine CI.p (zic s p) ?_;simp;exact aB (by simp) rfl
theorem hasSuffix (s p:cH)(hl:(bs s).length<=1000000):Ct prog 257 [str s,str p] [] [] (bool (H0 s p)) []:=by
 refine Ct.B func257 ?_;simp;have hs:=mD s;have hp:=mD p;unfold H0;simp[hs,hp];have e:decide (s.extract ((bs s).length-(bs p).length) (bs s).length=p)=decide ((bs s).drop ((bs s).length-(bs p).length)=bs p):=N3.2 (by rw[OP,zho]);refine bX (fun h1=>?_) (fun h1=>?_)<;>simp only[h1]<;>simp[hs,hp]
 ·have h1':=xD h1;have w1:IntKind.wrap .i64 (((bs s).length:Int)-(bs p).length)=((bs s).length-(bs p).length:Nat):=by rw[wrap_i64 (by omega) (by omega)];omega
  simp[w1];rw[<-e];exact aB (by simp[h1]) rfl
 ·exact aB (by simp[h1]) rfl
theorem Oo (s p:cH)(hl:(bs s).length<=1000000):Ct prog 194 [str s,str p] [] [] (bool (H0 s p)) []:=by
 refine Ct.B func194 ?_;simp;refine CI.p (hasSuffix s p hl) ?_;simp;exact aB (by simp) rfl
theorem zfm (p h:cH)(hp:(bs p).length<=1000000)(hh:(bs h).length<=1000000):Ct prog 138 [str p,str h] [] [] (bool (AY p h)) []:=by
 refine Ct.B func138 ?_;simp;have hs:=mD h;have hq:=mD (yO p ⟨#[42]⟩);unfold AY;refine CI.p (YM p) ?_;simp;cases h1:zM p with
 |false=>
  simp[h1];exact aB (by simp) rfl
 |true=>
  simp[h1];refine CI.p (YM h) ?_;simp;cases h2:zM h with
  |false=>
   simp[h2];exact aB (by simp) rfl
  |true=>
   simp[h2];refine CI.p (WQ h ⟨#[42]⟩) ?_;simp;cases h3:tD h ⟨#[42]⟩with
   |true=>
    simp[h3];exact aB (by simp) rfl
   |false=>
    simp[h3];by_cases h4:p=⟨#[42]⟩
    ·simp[h4];exact aB (by simp) rfl
    ·by_cases h5:p=h
     ·subst h5;simp[h4];exact aB (by simp) rfl
     ·simp[h4,h5];refine CI.p (Re p ⟨#[42]⟩) ?_;simp;cases h6:tD p ⟨#[42]⟩with
      |false=>
       simp[h6];exact aB (by simp[h6]) rfl
      |true=>
       simp[h6];by_cases h7:(bs (yO p ⟨#[42]⟩)).length<(bs h).length
       ·simp[h7,hs,hq];refine CI.p (Oo h (yO p ⟨#[42]⟩) hh) ?_;simp;exact aB (by simp[h6,h7]) rfl
       ·simp[h7,hs,hq];exact aB (by simp[h6,h7]) rfl
theorem Vn (p s:cH)(hp:(bs p).length<=1000000)(hh:(bs s).length<=1000000):Ct prog 139 [str p,str s] [] [] (bool (B5 p s)) []:=by
 refine Ct.B func139 ?_;simp;unfold B5;refine CI.p (Re s p) ?_;simp;cases h1:tD s p with
 |false=>
  simp[h1];exact aB (by simp) rfl
 |true=>
  simp[h1];refine CI.p (WR p) ?_;simp;cases h2:xY p with
  |false=>
   simp[h2];exact aB (by simp) rfl
  |true=>
   simp[h2];refine CI.p (WR s) ?_;simp;cases h3:xY s with
   |false=>
    simp[h3];exact aB (by simp) rfl
   |true=>
    simp[h3];by_cases h4:yO s p=⟨#[]⟩
    ·simp[h4];exact aB (by simp[h4]) rfl
    ·simp[h4];refine CI.p (Oo p ⟨#[47]⟩ hp) ?_;simp;cases h5:H0 p ⟨#[47]⟩with
     |true=>
      simp[h5];exact aB (by simp[h4,h5]) rfl
     |false=>
      simp[h5];refine CI.p (WQ (yO s p) ⟨#[47]⟩) ?_;simp;exact aB (by simp[h4,h5]) rfl
theorem Bn (s:cH):Ct prog 259 [str s] [] [] (int (HO s)) []:=by
 refine Ct.B func259 ?_;simp;have hs:=mD s;unfold HO;by_cases h1:s=⟨#[42]⟩
 ·simp[h1];exact aB (by simp) rfl
 ·simp[h1];refine CI.p (WQ s ⟨#[42,46]⟩) ?_;simp;cases h2:tD s ⟨#[42,46]⟩with
  |true=>
   simp[h2];exact aB (by simp[hs]) rfl
  |false=>
   simp[h2];exact aB (by simp) rfl
theorem zeN (a b:cH):Ct prog 196 [str a,str b] [] [] (int (IT a b)) []:=by
 refine Ct.B func196 ?_;simp;refine CI.p (Bn a) ?_;simp;refine CI.p (Bn b) ?_;simp;refine CI.p (Rn (HO a) (HO b)) ?_;simp;exact aB (by simp[IT,Rp]) rfl
theorem zjn (a b:gB):Ct prog 140 [st (fR a),st (fR b)] [] [] (bool (TC a b)) []:=by
 refine Ct.B func140 ?_;simp;have hs:=mD a.pre;have hq:=mD b.pre;unfold TC;refine CI.p (zeN a.host b.host) ?_;simp;by_cases h1:0<IT a.host b.host
 ·simp[h1];exact aB (by simp) rfl
 ·by_cases h2:IT a.host b.host<0
  ·simp[h1,h2];exact aB (by simp) rfl
  ·simp[h1,h2];exact aB (by simp[hs,hq]) rfl
attribute [simp] ntmps136 results136 ntmps137 results137 ntmps93 results93 ntmps95 results95 ntmps94 results94 ntmps47 results47 ntmps49 results49
theorem zja (l:List gB)(kf:D)(may:gB->Bool)(hf:∀x∈l,cB prog (.d kf) [st (fR x)] (bool (may x)))(hl:l.length<=1000000):Ct prog 136 [aC (l.map fR),.d kf,.d (dX 140)] [] [] (.bI [st (fR (l.foldl (o6 may) (rU,false)).1),bool (l.foldl (o6 may) (rU,false)).2]) []:=by
 refine Ct.B func136 ?_;simp;refine aQ.V (l) (fun k=>[(1,.d kf),(2,.d (dX 140)),(6,.ptr 65 0),(8,.ptr 64 0),(9,bool ((l.take k.1).foldl (o6 may) (rU,false)).2),(12,aC (l.map fR)),(13,int l.length),(14,int k.1)]) (fun k=>[(64,.cells [str ((l.take k.1).foldl (o6 may) (rU,false)).1.host,str ((l.take k.1).foldl (o6 may) (rU,false)).1.pre,aC (((l.take k.1).foldl (o6 may) (rU,false)).1.split.map wC)] 131),(65,.cells [str ⟨#[]⟩,str ⟨#[]⟩,aC []] 131)]) 66 (fun k hk1 B hB=>?_);simp;refine aJ (fun h=>?_) (fun h=>?_)
 ·have hk:k<(l).length:=by simpa using h
  obtain⟨r,hx,hr,hm,ht,hd,hw⟩:=dL hk;simp only[h];simp[hr,hw];generalize hz:(l.take k).foldl (o6 may) (rU,false)=z;refine CI.ff (hf r hm) rfl rfl rfl ?_;simp;cases h1:may r with
  |false=>
   have e:o6 may z r=z:=by simp[o6,h1]
   simp[h1];exact hB hk (by constructor<;>simp[hw,ht,hz,e])
  |true=>
   simp[h1];cases h2:z.2 with
   |false=>
    have e:o6 may z r=(r,true):=by simp[o6,h1,h2]
    simp[h2];exact hB hk (by constructor<;>simp[hw,ht,hz,e])
   |true=>
    simp[h2];refine CI.ff (cB.of (zjn r z.1) call140 rfl rfl) rfl rfl rfl ?_;simp;cases h3:TC r z.1 with
    |true=>
     have e:o6 may z r=(r,true):=by simp[o6,h1,h3]
     simp[h3];exact hB hk (by constructor<;>simp[hw,ht,hz,e])
    |false=>
     have e:o6 may z r=z:=by simp[o6,h1,h2,h3]
     simp[h3];exact hB hk (by constructor<;>simp[hw,ht,hz,e,h2])
 ·obtain rfl:k=(l).length:=by simp at h;omega
  simp only[h];simp;exact aB (by simp) rfl
theorem zbZ (r:gB)(h s:cH)(hh:(bs h).length<=1000000)(hs:(bs s).length<=1000000)(hr:(bs r.host).length<=1000000)(hp:(bs r.pre).length<=1000000):Ct prog 137 [st (fR r),.d (.bM [sD h]),.d (.bM [sD s])] [] [] (bool (AY r.host h&&B5 r.pre s)) []:=by
 refine Ct.B func137 ?_;simp;refine CI.p (zfm r.host h hr hh) ?_;simp;cases h1:AY r.host h with
 |false=>
  simp[h1];exact aB (by simp) rfl
 |true=>
  simp[h1];refine CI.p (Vn r.pre s hp hs) ?_;simp;exact aB (by simp) rfl
theorem Hp (l:List gB)(h s:cH)(hh:(bs h).length<=1000000)(hs:(bs s).length<=1000000)(hr:∀r∈l,(bs r.host).length<=1000000/\(bs r.pre).length<=1000000)(hl:l.length<=1000000):Ct prog 93 [aC (l.map fR),str h,str s] [] [] (.bI [st (fR (nQ l h s).1),bool (nQ l h s).2]) []:=by
 refine Ct.BS func93 mixed 1 400 ?_;simp;refine CI.s (tm:=[(0,aC (l.map fR)),(4,.d (.bM [sD h])),(5,.d (.bM [sD s])),(6,.ptr 192 0)]) (mm:=[(192,.cells [str ⟨#[]⟩,str ⟨#[]⟩,aC []] 131)]) (nx:=193) [] [64,128] (by constructor<;>simp) ?_;refine CI.n ?_;simp;refine CI.p (zja l (.fn (.func 137) [] [.bM [sD h],.bM [sD s]]) (fun r=>AY r.host h&&B5 r.pre s) (fun r hr'=>cB.mY (zbZ r h s hh hs (hr r hr').1 (hr r hr').2) call137 rfl rfl) hl) ?_;simp;exact aB (by simp[nQ]) rfl
theorem Bs (w:Weight):Ct prog 95 [st (wC w)] [] [] (int (kO w)) []:=by
 refine Ct.B func95 ?_;simp;have e:=zi8 w.w;exact aB (by simp[e,kO]) rfl
theorem Vv (l:List Weight)(hl:l.length<=1000000):Ct prog 94 [aC (l.map wC)] [] [] (int (oN l)) []:=by
 refine Ct.B func94 ?_;simp;refine aQ.V (l) (fun k=>[(3,int (oN (l.take k.1))),(6,aC (l.map wC)),(7,int l.length),(8,int k.1)]) (fun k=>[]) 64 (fun k hk1 B hB=>?_) (h0:=by constructor<;>simp[Ch]);simp[Ch];refine aJ (fun h=>?_) (fun h=>?_)
 ·have hk:k<(l).length:=by simpa using h
  obtain⟨w,hx,hr,hm,ht,hd,hw⟩:=dL hk;simp only[h];simp[hr,hw];have hb:=UU (l.take k);have hwb:=UQ w;have hlen:(l.take k).length<=1000000:=by simp;omega
  have w1:=wrap_i64 (n:=oN (l.take k)+kO w) (by omega) (by omega);refine CI.p (Bs w) ?_ (ha:=by simp[w1]);simp[w1];exact hB hk (by constructor<;>simp[hw,ht,Vw])
 ·obtain rfl:k=(l).length:=by simp at h;omega
  simp only[h];simp;exact aB (by simp) rfl
theorem Rw (l:List Weight)(draw:Int)(hl:l.length<=1000000):Ct prog 47 [aC (l.map wC),int draw] [] [] (.bI [str (tN l draw).1,bool (tN l draw).2]) []:=by
 refine Ct.B func47 ?_;simp;have hb:=UU l;refine CI.p (Vv l hl) ?_;simp;unfold tN;generalize oN l=n at*;by_cases hn:n=0
 ·simp[hn];exact aB (by simp) rfl
 ·have hn1:¬(n:Int)=0:=hn;have e0:(if 0<draw then draw else 0).tmod n=(max 0 draw).tmod n:=by rw[show(if 0<draw then draw else 0)=max 0 draw by omega]
  have h2:=N9 (max 0 draw) (b:=n) (by omega);have h3:=KX (a:=max 0 draw) n (by omega);simp[hn,e0];generalize(max 0 draw).tmod n=n0 at*;refine aQ.inv mixed rfl (ι:={z:Nat×Int//z.1<=l.length/\KC l n0 z.1 z.2}) (fun k=>[(7,int k.1.2),(18,aC (l.map wC)),(19,int l.length),(20,int k.1.1)]) (fun k=>[]) 64 (fun k=>l.length-k.1.1) ⟨(0,n0),by omega,⟨rfl,h3,xL _⟩⟩ [] (by constructor<;>simp) ?_;rintro⟨⟨k,left⟩,hk1,hI⟩ B hB;simp only at hk1 hI;refine CI.n ?_;simp;refine aJ (fun h=>?_) (fun h=>?_)<;>simp only[h]<;>simp<;>(try simp only[nT,nF,dT,dF]at h)
  ·have hk:k<l.length:=by simpa using h
   obtain⟨w,hx,hr,hm,ht,hd⟩:=mH hk;have hw:=wr (k:=k) (by omega);have hwb:=UQ w;have l0:=hI.l0;have l1:=hI.l1;obtain⟨s1,s2⟩:=hI.step hd;have w1:=wrap_i64 (n:=left-kO w) (by omega) (by omega);simp[hr,hw];refine CI.p (Bs w) ?_ (ha:=by simp[w1]);simp[w1];refine aJ (fun h3=>?_) (fun h3=>?_)<;>simp only[h3]<;>simp<;>(try simp only[nT,nF,dT,dF]at h3)
   ·first|exact aB (by simp[s1 h3]) rfl|exact cK (by simp[s1 h3])
   ·refine hB _ ⟨(k+1,left-kO w),hk,s2 h3⟩ [] ?_ (by simp;omega);constructor<;>simp[hw,w1]
  ·have hkl:k=l.length:=by simp at h;omega
   subst hkl;exact aB (by simp[hI.last]) rfl
theorem Il (l:List Int)(draw:Int)(hl:l.length<=1000000):Ct prog 49 [aC (l.map lP),int draw] [] [] (.bI [int (tK l draw).1,bool (tK l draw).2]) []:=by
 refine Ct.B func49 ?_;simp;by_cases hq:l=[]
 ·subst hq;simp;exact aB (by simp[tK]) rfl
 ·obtain⟨k,e1,e2,e3⟩:=zgp draw hq;have hz:¬(l.length:Int)=0:=by have:=xI.2 hq;omega
  simp[hq,e1,e2];exact aB (by simp[e3,e2]) rfl
open Go.Shelf Go.RowKit Go.Lib Go.Sort
set_option maxHeartbeats 4000000 in
theorem zh4 :T2 prog 409 3 57:=by
 intro bQ cap k len news w W2 hk hlen hm A hA hsrc s1 s2 s3 hcl;have t22:prog.underlying 57=some (.slice 145):=by kernel_rfl
 obtain⟨i0,d0,z0,hi0,_,_,hti⟩:=j7 UY;have hz1:i0.size=3:=(dH TI.sz hti).symm;obtain⟨W1,hW1⟩:∃W1,W1=w.drew.setCells bQ (0+k*3) news:=⟨_,rfl⟩;rw[<-hW1]at hcl;have hW:Hid (W1=w.drew.setCells bQ (0+k*3) news):=hW1;have hic:k<=cap:=by omega
 have hb1:(0:Int)<=(k:Int)+1:=by omega
 have hb2:(k:Int)+1<=len:=by omega
 have mixed:prog.follows .mixedOrders=true:=mixed;have hjc:k+1<=cap:=by omega
 clear hW1
 go_enter func409,ntmps409
 go_wp2_with fail
 go_region_law_o (refine step_append_room rfl (.tmp 22) (.tmp 25) 57 rfl 145 i0 3 t22 hi0 hz1 bQ 0 k cap (by simp[Act.eval,Act.put]) A (len-(k+1)) (cap-(k+1)) news (by simp[Act.eval,Act.put]) s1.out hsrc.out s2.out (by omega) s3.out ?_;rw[<-hW.out])
 go_wp2
 go_ret
 refine⟨by rw[show len-1=k+(len-(k+1)) by omega];rfl,rfl⟩
set_option maxHeartbeats 4000000 in
theorem zh2 :T2 prog 185 13 110:=by
 intro bQ cap k len news w W2 hk hlen hm A hA hsrc s1 s2 s3 hcl;have t22:prog.underlying 110=some (.slice 220):=by kernel_rfl
 obtain⟨i0,d0,z0,hi0,_,_,hti⟩:=j7 UX;have hz1:i0.size=13:=(dH TI.sz hti).symm;obtain⟨W1,hW1⟩:∃W1,W1=w.drew.setCells bQ (0+k*13) news:=⟨_,rfl⟩;rw[<-hW1]at hcl;have hW:Hid (W1=w.drew.setCells bQ (0+k*13) news):=hW1;have hic:k<=cap:=by omega
 have hb1:(0:Int)<=(k:Int)+1:=by omega
 have hb2:(k:Int)+1<=len:=by omega
 have mixed:prog.follows .mixedOrders=true:=mixed;have hjc:k+1<=cap:=by omega
 clear hW1
 go_enter func185,ntmps185
 go_wp2_with fail
 go_region_law_o (refine step_append_room rfl (.tmp 22) (.tmp 25) 110 rfl 220 i0 13 t22 hi0 hz1 bQ 0 k cap (by simp[Act.eval,Act.put]) A (len-(k+1)) (cap-(k+1)) news (by simp[Act.eval,Act.put]) s1.out hsrc.out s2.out (by omega) s3.out ?_;rw[<-hW.out])
 go_wp2
 go_ret
 refine⟨by rw[show len-1=k+(len-(k+1)) by omega];rfl,rfl⟩
end Go.Proofs.YtegplpagkajolaaGreatDoor
namespace Go.Proofs.YtegplpagkajolaaGreatDoor
open Go.AI Go.G Tryz
attribute [simp] ntmps408 results408 ntmps379 results379 ntmps380 results380 ntmps88 results88 ntmps381 results381
theorem Ie (p:dJ)(id:Int)(h:p.aX.length<=1000000):Ct prog 408 [st (sE p),int id] [] [] (int (lM p id)) []:=by
 refine Ct.EO func408 rfl mixed (by rw[ntmps408];simp) (CI.seq (CI.SP mixed (ι:=Unit) (fun _=>[(1,int id),(2,.ptr 64 0)]) (fun _=>[(64,.cells [int p.next,aC (p.aX.map jZ)] 59)]) 65 rfl (fun B hB=>CI.run 99 400 rfl ?_) fun _=>?_))
 ·simp;refine hB _ () [] ?_;constructor<;>simp
 refine CI.jumps mixed (Plain.wI _ _ _ _ _) (ι:={k:Nat//k<=p.aX.length/\sC p.aX id p.aX.length=sC p.aX id k}) (fun k=>[(1,int id),(2,.ptr 64 0),(5,int ((k.1:Int)-1))]) (fun k=>[(64,.cells [int p.next,aC (p.aX.map jZ)] 59)]) 65 (fun k=>k.1) ⟨p.aX.length,cM _,rfl⟩ rfl (fun B hB=>?_) ?_
 ·refine CI.n ?_;simp;refine CI.p (RH p (by omega)) ?_;simp;refine hB _ [] ?_;constructor<;>simp
 rintro⟨k,hk,e⟩ B hB;cases k with
 |zero=>
  refine CI.run 3 400 rfl ?_;simp;exact aB (by simp[lM,e,sC]) rfl
 |succ j=>
  have hj:j<p.aX.length:=by omega
  have e1:((j+1:Nat):Int)-1=j:=by omega
  have e2:p.aX[j]? =some p.aX[j]:=cI hj;generalize hs:p.aX[j]=s at*;by_cases hq:s.id=id
  ·have e3:sC p.aX id (j+1)=j:=by simp[sC,e2,hq]
   refine CI.run 3 400 rfl ?_;simp[e1,e2,hj,hs,hq];exact aB (by simp[lM,e,e3]) rfl
  ·have e3:sC p.aX id (j+1)=sC p.aX id j:=by simp[sC,e2,hq]
   have w1:IntKind.wrap .i64 ((j:Int)-1)=j-1:=wrap_i64 (by omega) (by omega);refine CI.run 3 400 rfl ?_;simp[e1,e2,hj,hs,hq,w1];refine CI.SP mixed (ι:=Unit) (fun _=>[(1,int id),(2,.ptr 64 0),(5,int ((j:Int)-1))]) (fun _=>[(64,.cells [int p.next,aC (p.aX.map jZ)] 59)]) 65 rfl (fun B' hB'=>CI.run 99 400 rfl ?_) fun _=>CI.goto ⟨rfl,hB _ ⟨j,by omega,by rw[e,e3]⟩ [] ?_ (by simp)⟩
   ·simp[w1];refine hB' _ () [] ?_;constructor<;>simp
   ·constructor<;>simp
theorem Rs (l:List eG)(hne:l≠[])(hl:l.length<=1000000):Ct prog 297 [aC (l.map jZ)] [] [] (.own 64) [(64,.grow 3 (l.map jZ) 145)]:=by
 cases l with
 |nil=>exact absurd rfl hne
 |cons x l=>exact Rr x l (by simp at hl;omega)
theorem zdf (p:dJ)(hp:oI p):Ct prog 379 [st (sE p)] [] [] (.bI [st (sE (qJ p).1),int (qJ p).2.1,int (qJ p).2.2]) []:=by
 refine Ct.B func379 ?_;simp;refine CI.p (HX p hp) ?_;simp;have hs:=FQ p;have hb:=D4 (oQ.1 (D0 p)).1;have hq0:=D0 p;unfold qJ;generalize gQ p=q at*;refine CI.p (RH q (by omega)) ?_;simp;obtain⟨nx,l⟩:=q;simp only at*;rcases Ni l with e|⟨i,s,e⟩
 ·subst e;simp;exact aB (by simp[zF]) rfl
 ·subst e;have hs2:=(hb s (by simp)).2.1;have hs0:=O6 (oQ.1 hq0).1 s (by simp);have hsl:i.length+1<=1000:=by simpa using hs
  have e1:(((i++[s]).length:Int)-1)=i.length:=by simp
  have e2:¬(i.length:Int)<0:=by omega
  by_cases h1:s.pins=10000
  ·simp[e1,e2,h1];exact aB (by simp[zF,h1]) rfl
  ·simp[e1,e2,h1];have w1:=wrap_i64 (n:=s.pins+1) (by omega) (by omega);refine CI.cc [] (Rs (i++[s]) (by simp) (by simp;omega)) ?_;simp;have hlt:(i.length:Int)<i.length+1:=by omega
   simp[hlt,Pd,za8,w1];refine⟨by decide+kernel,?_⟩;exact aB (by simp[zF,h1]) rfl
theorem zgT (p:dJ)(id:Int)(hp:oI p):Ct prog 380 [st (sE p),int id] [] [] (.bI [aC (((sI p id).getD []).map aK),bool (sI p id).isSome]) []:=by
 refine Ct.B func380 ?_;simp;refine CI.p (HX p hp) ?_;simp;have hs:=FQ p;unfold sI MU;generalize gQ p=q at*;refine CI.p (Ie q id (by omega)) ?_;simp;have hr:=WN q.aX id q.aX.length;change-1<=lM q id/\lM q id<q.aX.length at hr;by_cases h1:lM q id<0
 ·simp[h1];exact aB (by simp[h1]) rfl
 ·obtain⟨k,hk⟩:∃k:Nat,lM q id=k:=⟨(lM q id).toNat,by omega⟩;rw[hk]at h1 hr⊢;have hkl:k<q.aX.length:=by omega
  simp[hk,h1,hkl];exact aB (by simp[h1,hkl]) rfl
theorem zh5 (l:List (List D))(k:Nat)(hk:k<l.length):Ct prog 409 [.own 0,int k,int ((k:Int)+1)] [] [(0,.grow 3 l 145)] (aC (l.eraseIdx k)) []:=
 Ct.Qy zh4 (by kernel_rfl) UY rfl rfl rfl (by decide) hk
theorem zfN (nx:Int)(l:List (List D))(hl:l.length<=1000000):Ct prog 88 [.agg [int nx,.own 0]] [(0,.grow 3 l 145)] [] (int ((l.length:Int)-1)) []:=by
 refine Ct.B func88 ?_;simp;have w:=wrap_i64 (n:=(l.length:Int)-1) (by omega) (by omega);simp[w];exact⟨[],by constructor<;>simp[aV,aW]⟩
theorem zcg (p:dJ)(id:Int)(hp:oI p):Ct prog 381 [st (sE p),int id] [] [] (.bI [st (sE (oR p id).1),int (oR p id).2]) []:=by
 refine Ct.B func381 ?_;simp;refine CI.p (HX p hp) ?_;simp;have hs:=FQ p;have hb:=D4 (oQ.1 (D0 p)).1;have hq0:=D0 p;unfold oR;generalize gQ p=q at*;refine CI.p (Ie q id (by omega)) ?_;simp;have hr:=WN q.aX id q.aX.length;change-1<=lM q id/\lM q id<q.aX.length at hr;by_cases h1:lM q id<0
 ·simp[h1];exact aB (by simp[s9,h1]) rfl
 ·obtain⟨k,hk⟩:∃k:Nat,lM q id=k:=⟨(lM q id).toNat,by omega⟩;rw[hk]at h1 hr;have hkl:k<q.aX.length:=by omega
  have e2:q.aX[k]? =some q.aX[k]:=cI hkl;have hm:q.aX[k]∈q.aX:=lU hkl;generalize hsn:q.aX[k]=s at*;have hs2:=(hb s hm).2.1;have hs0:=O6 (oQ.1 hq0).1 s hm;simp[hk,h1,hkl,hsn];refine CI.p (YL s) ?_;simp;by_cases h2:s.pins=0
  ·simp[h2];exact aB (by simp[s9,hk,h1,e2,h2]) rfl
  ·simp[h2];have w1:=wrap_i64 (n:=s.pins-1) (by omega) (by omega);have hne:q.aX≠[]:=by intro e;rw[e]at hkl;simp at hkl
   refine CI.cc [] (Rs q.aX hne (by omega)) ?_ (ha:=by simp[w1,hkl,hsn]) (hk:=by simp[w1,hkl,hsn]);simp[w1,hkl,hsn];have hll:((q.aX.map jZ).set k [iD s.id,iD (s.pins-1),lD (s.l.map aK)]).length<=1000000:=by simp;omega
   refine CI.cc [1472] (zfN q.next ((q.aX.map jZ).set k [iD s.id,iD (s.pins-1),lD (s.l.map aK)]) hll) ?_;simp;by_cases h3:(k:Int)=q.aX.length-1
   ·have hA:s9 q id=(⟨q.next,q.aX.set k {s with pins:=s.pins-1}⟩,0):=by
     unfold s9;rw[aH (by omega),hk,AG,e2];simp only[h2,gY];rw[aH (by omega)]
    rw[hA];simp[h3];have h5:q.aX.length-1=k:=by omega
    exact aB (by simp[h5]) rfl
   ·simp[h3,hkl];refine CI.p (YL {s with pins:=s.pins-1}) ?_;simp;by_cases h4:s.pins-1=0
    ·have hA:s9 q id=(⟨q.next,q.aX.eraseIdx k⟩,0):=by
      unfold s9;rw[aH (by omega),hk,AG,e2];simp only[h2,gY];rw[aU (by omega)]
     rw[hA];have w2:=wrap_i64 (n:=(k:Int)+1) (by omega) (by omega);simp[h4,w2];refine CI.cc [1472] (zh5 ((q.aX.map jZ).set k [iD s.id,iD 0,lD (s.l.map aK)]) k (by simpa using hkl)) ?_;simp;exact aB (by simp[ZF,List.eraseIdx_set_eq]) rfl
    ·have hA:s9 q id=(⟨q.next,q.aX.set k {s with pins:=s.pins-1}⟩,0):=by
      unfold s9;rw[aH (by omega),hk,AG,e2];simp only[h2,gY];rw[aH (by omega)]
     rw[hA];simp[h4];exact aB (by simp) rfl
attribute [simp] ntmps321 results321 ntmps324 results324
theorem zjg (s:bB)(h:fT s):Ct prog 321 [st (jQ s)] [] [] (.bI [st (jQ (qR s).1),int (qR s).2.1,int (qR s).2.2]) []:=by
 refine Ct.B func321 ?_;simp;refine CI.p (LF s h) ?_;simp;unfold qR;have ho:=h.sound;generalize fG s=q at ho⊢;refine CI.p (zdf q.p ho.pins) ?_;simp;exact aB (by simp) rfl
theorem zhA (s:bB)(id:Int)(h:fT s):Ct prog 324 [st (jQ s),int id] [] [] (.bI [st (jQ (kC s id).1),aC ((kC s id).2.1.map fY),int (kC s id).2.2]) []:=by
 refine Ct.B func324 ?_;simp;refine CI.p (LF s h) ?_;simp;unfold kC;have ho:=h.sound;have ht:=UT (LG s);generalize fG s=q at ho ht⊢;refine CI.p (zcg q.p id ho.pins) ?_;simp;have o2:=W4 id ho.pins;unfold yK;dsimp only;generalize oR q.p id=R at o2⊢;refine CI.p (JF R.1 o2) ?_;simp;refine CI.p (JF q.p ho.pins) ?_;simp;refine CI.p (ZG (fH R.1) (fH q.p) (by have:=MQ o2;omega)) ?_;simp;refine⟨by decide+kernel,?_⟩;refine bX (fun h1=>?_) (fun h1=>?_)<;>simp only[h1]<;>simp
 ·have h1':fH R.1=fH q.p:=by simpa using h1
  exact aB (by simp[h1']) rfl
 have h1':¬fH R.1=fH q.p:=by simpa using h1
 refine bX (fun h2=>?_) (fun h2=>?_)<;>simp only[h2]<;>simp
 ·have h2':q.up=false:=by simpa using h2
  exact aB (by simp[h1',h2']) rfl
 have h2':q.up=true:=by simpa using h2
 refine CI.p (MV {q with p:=R.1}) ?_;simp;refine aJ (fun h3=>?_) (fun h3=>?_)<;>simp only[h3]<;>simp
 ·exact aB (by simp[h1',h2',h3]) rfl
 ·refine CI.p (IG {q with p:=R.1} ⟨3,q.aF,0,0,0,[],[],0,[],[]⟩ (ho.UP o2) ht.2 ht.1) ?_;simp;refine⟨by decide+kernel,?_⟩;exact aB (by simp[h1',h2',h3,n9]) rfl
attribute [simp] ntmps91 results91 ntmps45 results45 ntmps182 results182 ntmps320 results320 ntmps241 results241 ntmps184 results184 ntmps242 results242 ntmps247 results247 ntmps322 results322 ntmps323 results323 ntmps243 results243 ntmps244 results244 ntmps245 results245 ntmps246 results246 ntmps183 results183
theorem zfv (r:aA)(n:Int):Ct prog 91 [st (aK r),.d (.bM [iD n])] [] [] (bool (decide (r.kind=0)&&decide (r.port=n))) []:=by
 refine Ct.B func91 ?_;simp
 repeat' first
  | (refine bX (fun h=>?_) (fun h=>?_)<;>simp only[h]<;>simp[h])
  | (refine aJ (fun h=>?_) (fun h=>?_)<;>simp only[h]<;>simp[h])
  | (refine⟨(show nY _ _ from by decide+kernel),?_⟩)
  |fail
 all_goals exact aB (by simp[*]) rfl
theorem Mx (l:List aA)(n:Int)(hl:l.length<=9223372036854775807):Ct prog 45 [aC (l.map aK),int n] [] [] (.bI [st (aK ((wP l n).getD jE)),bool (wP l n).isSome]) []:=by
 refine Ct.BS func45 mixed 1 400 ?_;simp;refine CI.s (tm:=[(0,aC (l.map aK)),(3,.d (.bM [iD n])),(4,.ptr 128 0),(5,bool false)]) (mm:=[(128,.cells [int 0,str ⟨#[]⟩,int 0,int 0,str ⟨#[]⟩,aC [],aC []] 126)]) (nx:=129) [] [64] (by constructor<;>simp) ?_;refine CI.n ?_;simp;refine CI.p (RZ l (.fn (.func 91) [] [.bM [iD n]]) (fun r=>decide (r.kind=0)&&decide (r.port=n)) (fun r hr=>cB.mY (zfv r n) call91 rfl rfl) hl) ?_;simp;rcases JM (fun r:aA=>decide (r.kind=0)&&decide (r.port=n)) l with⟨h1,h2⟩|⟨i,x,h1,h2,h3,h4⟩
 ·have e:wP l n=none:=h2;simp[h1];exact aB (by simp[e,jE]) rfl
 ·have e:wP l n=some x:=h4;have hx:l[i]=x:=by rw[cI h2]at h3;exact lT h3
  have h0:¬(i:Int)<0:=by omega
  simp[h1,h0,h2,h3,hx];exact aB (by simp[e]) rfl
theorem Ky (a:G.Ask):Ct prog 182 [st (sM a)] [] [] (st (AR (oU a))) []:=by
 refine Ct.B func182 ?_;simp;exact aB (by simp[oU,iB]) rfl
theorem Fo (r:kD):Ct prog 320 [st (AR r)] [] [] (bool (lL r)) []:=by
 refine Ct.B func320 ?_;simp
 repeat' first
  | (refine bX (fun h=>?_) (fun h=>?_)<;>simp only[h]<;>simp[h])
  | (refine aJ (fun h=>?_) (fun h=>?_)<;>simp only[h]<;>simp[h])
  | (refine⟨(show nY _ _ from by decide+kernel),?_⟩)
  |fail
 all_goals exact aB (by simp[*,lL]) rfl
theorem Ds (r:kD):Ct prog 241 [st (AR r)] [] [] (st (AR (mS r))) []:=by
 refine Ct.B func241 ?_;simp;refine CI.p (Fo r) ?_;simp;refine aJ (fun h1=>?_) (fun h1=>?_)<;>simp only[h1]<;>simp<;>(try simp only[nT,nF,dT,dF]at h1)
 ·refine CI.p (Ky r.a) ?_;simp;first|exact aB (by simp[mS,h1]) rfl|exact cK (by simp[mS,h1])
 ·first|exact aB (by simp[mS,h1]) rfl|exact cK (by simp[mS,h1])
theorem V1 (r:kD):Ct prog 184 [st (AR r)] [] [] (bool (kU r)) []:=by
 refine Ct.B func184 ?_;simp;refine CI.p (Ds r) ?_;simp;exact aB (by simp[kU]) rfl
theorem Un (s:bB)(h:fT s):Ct prog 242 [st (jQ s)] [] [] (st (jQ (fG s))) []:=by
 refine Ct.B func242 ?_;simp;refine CI.p (Fg s h) ?_;simp;refine aJ (fun h1=>?_) (fun h1=>?_)<;>simp only[h1]<;>simp<;>(try simp only[nT,nF,dT,dF]at h1)
 ·refine CI.p (wL s.w.c.cap s.cE.m) ?_;simp;first|exact aB (by simp[fG,h1]) rfl|exact cK (by simp[fG,h1])
 ·first|exact aB (by simp[fG,h1]) rfl|exact cK (by simp[fG,h1])
abbrev xO (w:jK):List (Nat×bC):=[(0,.cells ((Bg w).map .d) 339)]
theorem CZ (w:jK)(a:nC)(h:fT w.s):Ct prog 247 [.ptr 0 0,st (TK a)] [] (xO w) (.bI []) (xO (lR w a)):=by
 refine Ct.B func247 ?_;simp;by_cases h1:w.r.cV=0
 ·simp[h1];refine⟨by decide+kernel,?_⟩;exact⟨[],by constructor<;>simp[aV,aW,lR,h1]⟩
 ·simp[h1];refine CI.p (zhA w.s w.r.id h) ?_;simp;refine⟨by decide+kernel,?_⟩;first| (refine⟨[],?_,?_,?_,?_,?_,?_,?_⟩<;>simp[aV,aW,lR,h1];done)| (refine⟨by decide+kernel,?_⟩;refine⟨[],?_,?_,?_,?_,?_,?_,?_⟩<;>simp[aV,aW,lR,h1])
theorem Dy (w:jK)(h:fT w.s):Ct prog 322 [.ptr 0 0] (xO w) [] (aC ((y6 w).map aK)) []:=by
 refine Ct.B func322 ?_;simp;refine CI.p (zgT w.s.p w.r.id h.pins) ?_;simp;refine⟨by decide+kernel,?_⟩;exact⟨[],by constructor<;>simp[aV,aW,y6]⟩
theorem Y0 (w:jK)(k_:Int)(n:cH)(h:fT w.s):Ct prog 323 [.ptr 0 0,int k_,str n] (xO w) [] (.bI [st (aK ((wT w k_ n).getD jE)),bool (wT w k_ n).isSome]) []:=by
 refine Ct.B func323 ?_;simp;have hl:=Pn h.pins w.r.id;refine CI.cc [0] (Dy w h) ?_;simp;refine CI.p (R3 (y6 w) ⟨k_,n⟩ (by unfold y6;omega)) ?_;simp;exact⟨[],by constructor<;>simp[aV,aW,wT]⟩
theorem zjh (w:jK)(h:fT w.s):Ct prog 243 [.ptr 0 0] [] (xO w) (.bI []) (xO (vR w)):=by
 refine Ct.B func243 ?_;simp;refine CI.p (zjg w.s h) ?_;simp;refine aJ (fun h1=>?_) (fun h1=>?_)<;>simp only[h1]<;>simp<;>(try simp only[nT,nF,dT,dF]at h1)
 ·refine CI.cc [0] (CZ w ⟨0,⟨#[]⟩,0⟩ h) ?_;simp;first| (refine⟨[],?_,?_,?_,?_,?_,?_,?_⟩<;>simp[aV,aW,vR,h1];done)| (refine⟨by decide+kernel,?_⟩;refine⟨[],?_,?_,?_,?_,?_,?_,?_⟩<;>simp[aV,aW,vR,h1])
 ·first| (refine⟨[],?_,?_,?_,?_,?_,?_,?_⟩<;>simp[aV,aW,vR,h1];done)| (refine⟨by decide+kernel,?_⟩;refine⟨[],?_,?_,?_,?_,?_,?_,?_⟩<;>simp[aV,aW,vR,h1])
theorem zfu (w:jK)(h:fT w.s):Ct prog 244 [.ptr 0 0] [] (xO w) (.bI []) (xO (x9 w)):=by
 refine Ct.B func244 ?_;simp;refine CI.cc [0] (Dy w h) ?_;simp;have hl:=Pn h.pins w.r.id;refine CI.p (Mx (y6 w) w.r.a.port (by unfold y6;omega)) ?_;simp;refine⟨by decide+kernel,?_⟩;cases e:wP (y6 w) w.r.a.port with
 |none=>
  simp[e];refine CI.cc [0] (CZ w ⟨1,⟨#[]⟩,0⟩ h) ?_;simp;exact⟨[],by constructor<;>simp[aV,aW,x9,e]⟩
 |some x=>
  simp[e];exact⟨[],by constructor<;>simp[aV,aW,x9,e]⟩
theorem zb1 (w:jK)(h:fT w.s)(hs:nK w.s.p)(ha:(bs w.r.a.host).length<=1000000)(hp:(bs w.r.a.path).length<=1000000):Ct prog 245 [.ptr 0 0] [] (xO w) (.bI []) (xO (zC w)):=by
 refine Ct.B func245 ?_;simp;refine CI.cc [0] (Y0 w 1 w.r.CF h) ?_;simp;have hf:DD ((wT w 1 w.r.CF).getD jE):=MT (hs.get w.r.id) _;unfold zC;dsimp only;generalize wT w 1 w.r.CF=x at hf⊢;refine CI.p (Hp (x.getD jE).rules w.r.a.host w.r.a.path ha hp hf.each hf.rules) ?_;simp;refine⟨by decide+kernel,?_⟩;have hc:=Gh hf w.r.a.host w.r.a.path;generalize nQ (x.getD jE).rules w.r.a.host w.r.a.path=u at hc⊢;cases x with
 |none=>
  simp;refine CI.cc [0] (CZ w ⟨2,⟨#[]⟩,0⟩ h) ?_;simp;exact⟨[],by constructor<;>simp[aV,aW]⟩
 |some x=>
  simp;cases hu:u.2 with
  |false=>
   simp[hu];refine CI.cc [0] (CZ w ⟨2,⟨#[]⟩,0⟩ h) ?_;simp;exact⟨[],by constructor<;>simp[aV,aW,hu]⟩
  |true=>
   simp[hu];refine CI.p (Rw u.1.split w.r.a.first hc) ?_;simp;refine⟨by decide+kernel,?_⟩;refine aJ (fun h3=>?_) (fun h3=>?_)<;>simp only[h3]<;>simp<;>(try simp only[nT,nF,dT,dF]at h3)
   ·refine CI.cc [0] (CZ w ⟨0,⟨#[]⟩,0⟩ h) ?_;simp;first| (refine⟨[],?_,?_,?_,?_,?_,?_,?_⟩<;>simp[aV,aW,hu,h3];done)| (refine⟨by decide+kernel,?_⟩;refine⟨[],?_,?_,?_,?_,?_,?_,?_⟩<;>simp[aV,aW,hu,h3])
   ·first| (refine⟨[],?_,?_,?_,?_,?_,?_,?_⟩<;>simp[aV,aW,hu,h3];done)| (refine⟨by decide+kernel,?_⟩;refine⟨[],?_,?_,?_,?_,?_,?_,?_⟩<;>simp[aV,aW,hu,h3])
theorem ziB (w:jK)(h:fT w.s)(hs:nK w.s.p):Ct prog 246 [.ptr 0 0] [] (xO w) (.bI []) (xO (zT w)):=by
 refine Ct.B func246 ?_;simp;refine CI.cc [0] (Y0 w 2 w.r.gI h) ?_;simp;unfold zT;dsimp only;generalize wT w 2 w.r.gI=c;refine CI.cc [0] (Y0 w 3 (c.getD jE).to h) ?_;simp;have hf:DD ((wT w 3 (c.getD jE).to).getD jE):=MT (hs.get w.r.id) _;generalize wT w 3 (c.getD jE).to=e at hf⊢;refine CI.p (Il (e.getD jE).cT w.r.a.other hf.cT) ?_;simp;refine⟨by decide+kernel,?_⟩;generalize tK (e.getD jE).cT w.r.a.other=u;cases c with
 |none=>
  simp;refine CI.cc [0] (CZ w ⟨0,⟨#[]⟩,0⟩ h) ?_;simp;exact⟨[],by constructor<;>simp[aV,aW]⟩
 |some c=>
  simp;cases e with
  |none=>
   simp;refine CI.cc [0] (CZ w ⟨0,⟨#[]⟩,0⟩ h) ?_;simp;exact⟨[],by constructor<;>simp[aV,aW]⟩
  |some e=>
   simp;cases h3:u.2 with
   |false=>
    simp[h3];refine CI.cc [0] (CZ w ⟨0,⟨#[]⟩,0⟩ h) ?_;simp;exact⟨[],by constructor<;>simp[aV,aW,h3]⟩
   |true=>
    simp[h3];exact⟨[],by constructor<;>simp[aV,aW,h3]⟩
theorem Yr (r:kD)(s:bB)(h:fT s)(hs:nK s.p)(ha:(bs r.a.host).length<=1000000)(hp:(bs r.a.path).length<=1000000):Ct prog 183 [st (AR r),st (jQ s)] [] [] (.bI [st (AR (mQ r s).r),st (jQ (mQ r s).s),aC ((mQ r s).told.map fY)]) []:=by
 refine Ct.BS func183 mixed 2 400 ?_;simp;refine CI.pS (Ds r) call241 2 ?_;simp;refine CI.pS (Un s h) call242 2 ?_;simp;refine⟨by decide+kernel,?_⟩;unfold mQ qE;have ho:=h.sound;have hso:nK (fG s).p:=hs.fG;have hq:=Dt r;generalize fG s=x at ho hso⊢;generalize mS r=q at hq⊢;refine CI.s (tm:=[(7,.ptr 704 0),(4,.ptr 192 0),(5,.ptr 256 0),(6,aC [])]) (mm:=[(704,.cells ((Bg ⟨q,x,[]⟩).map .d) 339),(192,.cells ((AR ⟨⟨0,⟨#[]⟩,⟨#[]⟩,0,0⟩,0,0,⟨#[]⟩,⟨#[]⟩,iB⟩).map .d) 218),(256,.cells ((jQ ⟨0,0,false,⟨0,0,0,0,0⟩,⟨0,0,0,0⟩,⟨⟨0,[]⟩,false,[]⟩,⟨0,[]⟩⟩).map .d) 61)]) (nx:=768) [] [] (by constructor<;>simp[iB]) ?_;refine CI.n ?_;simp;refine aJ (fun h1=>?_) (fun h1=>?_)<;>simp only[h1]<;>simp<;>(try simp only[nT,nF,dT,dF]at h1)
 ·refine CI.cc [704] (zjh ⟨q,x,[]⟩ ho) ?_;simp;refine⟨by decide+kernel,?_⟩;first|exact aB (by simp[h1]) rfl|exact cK (by simp[h1])
 refine aJ (fun h2=>?_) (fun h2=>?_)<;>simp only[h2]<;>simp<;>(try simp only[nT,nF,dT,dF]at h2)
 ·refine CI.cc [704] (zfu ⟨q,x,[]⟩ ho) ?_;simp;refine⟨by decide+kernel,?_⟩;first|exact aB (by simp[h1,h2]) rfl|exact cK (by simp[h1,h2])
 refine aJ (fun h3=>?_) (fun h3=>?_)<;>simp only[h3]<;>simp<;>(try simp only[nT,nF,dT,dF]at h3)
 ·refine CI.cc [704] (zb1 ⟨q,x,[]⟩ ho hso (by rw[hq];exact ha) (by rw[hq];exact hp)) ?_;simp;refine⟨by decide+kernel,?_⟩;first|exact aB (by simp[h1,h2,h3]) rfl|exact cK (by simp[h1,h2,h3])
 refine aJ (fun h4=>?_) (fun h4=>?_)<;>simp only[h4]<;>simp<;>(try simp only[nT,nF,dT,dF]at h4)
 ·refine CI.cc [704] (ziB ⟨q,x,[]⟩ ho hso) ?_;simp;refine⟨by decide+kernel,?_⟩;first|exact aB (by simp[h1,h2,h3,h4]) rfl|exact cK (by simp[h1,h2,h3,h4])
 refine aJ (fun h5=>?_) (fun h5=>?_)<;>simp only[h5]<;>simp<;>(try simp only[nT,nF,dT,dF]at h5)
 ·refine CI.cc [704] (CZ ⟨q,x,[]⟩ q.out ho) ?_;simp;refine⟨by decide+kernel,?_⟩;first|exact aB (by simp[h1,h2,h3,h4,h5]) rfl|exact cK (by simp[h1,h2,h3,h4,h5])
 ·refine⟨by decide+kernel,?_⟩;first|exact aB (by simp[h1,h2,h3,h4,h5]) rfl|exact cK (by simp[h1,h2,h3,h4,h5])
attribute [simp] ntmps315 results315 ntmps314 results314 ntmps313 results313 ntmps378 results378 ntmps316 results316 ntmps318 results318 ntmps317 results317 ntmps319 results319 ntmps240 results240 ntmps180 results180 ntmps181 results181 ntmps124 results124 ntmps186 results186 ntmps125 results125
theorem Kc (l:List G.Task)(S:List Int)(n:Int)(ht1:∀t∈l,1<=t.n/\t.n<=n)(hd1:(S++l.map Task.n).Nodup)(hl:l.length<=1000000):Ct prog 315 [aC (l.map l8),.own 0,int n] [] [(0,.map false [.int] false (vF S))] (bool true) [(0,.map false [.int] false (vF (S++l.map Task.n)))]:=by
 refine Ct.B func315 ?_;simp;refine aQ.V (l) (fun k=>[(1,.own 0),(2,int n),(9,aC (l.map l8)),(10,int l.length),(11,int k.1)]) (fun k=>[(0,.map false [.int] false (vF (S++(l.take k.1).map Task.n)))]) 64 (fun k hk1 B hB=>?_);simp;refine aJ (fun h=>?_) (fun h=>?_)
 ·have hk:k<(l).length:=by simpa using h
  obtain⟨x,hx,hr,hm,ht,hd,hw⟩:=dL hk;simp only[h];simp[hr,hw];have hb:=ht1 x hm;have hL:x.n∉S++(l.take k).map Task.n:=zgY hd1 hr;have c1:¬x.n<1:=by omega
  have c2:¬n<x.n:=by omega
  have c3:vF (S++List.take k (List.map Task.n l)) [.int .i64 x.n]=none:=by rw[Q7,<-DM,aH hL]
  simp[c1,c2,c3];exact hB hk (by constructor<;>simp[hw,ht])
 ·obtain rfl:k=(l).length:=by simp at h;omega
  simp only[h];simp;exact⟨[],by constructor<;>simp[aV,aW]⟩
theorem zio (a b:G.Task)(ha:1<=a.n/\a.n<=100000)(hb:1<=b.n/\b.n<=100000):Ct prog 314 [st (l8 a),st (l8 b)] [] [] (int (a.n-b.n)) []:=by
 refine Ct.B func314 ?_;simp;have w1:=wrap_i64 (n:=a.n-b.n) (by omega) (by omega);simp[w1];exact aB (by simp) rfl
theorem Zw (l:List G.Task)(hl:l.length<=1000000)(hs:l.Pairwise fun a b=>a.n<b.n)(h:∀t∈l,1<=t.n/\t.n<=100000):Ct prog 313 [aC (l.map l8),.d (dX 314)] [] [] (bool true) []:=by
 refine Ct.B func313 ?_;simp;have w0:=wrap_i64 (n:=(l.length:Int)-1) (by omega) (by omega);refine aQ.inv mixed rfl (ι:={k:Nat//k<=l.length}) (fun k=>[(0,aC (l.map l8)),(1,.d (dX 314)),(5,int ((k.1:Int)-1))]) (fun k=>[]) 64 (fun k=>k.1) ⟨l.length,cM _⟩ [] (by constructor<;>simp[w0]) ?_;rintro⟨k,hk⟩ B hB;refine CI.n ?_;simp;refine aJ (fun h1=>?_) (fun h1=>?_)<;>simp only[h1]<;>simp<;>(try simp only[nT,nF,dT,dF]at h1)
 ·obtain⟨j,rfl⟩:∃j,k=j+2:=⟨k-2,by omega⟩;have hk1:j+1<l.length:=by omega
  have hk2:j<l.length:=by omega
  have hp:=UA.1 hs j (j+1) hk2 hk1 (by omega);have hx:=h _ (lU hk1);have hy:=h _ (lU hk2);have hr1:l[j+1]? =some l[j+1]:=cI hk1;have hr2:l[j]? =some l[j]:=cI hk2;generalize hgx:l[j+1]=x at hp hx hr1;generalize hgy:l[j]=y at hp hy hr2;have e1:(j:Int)+2-1=j+1:=by omega
  have e0:(1:Int)<=(j:Int)+2:=by omega
  have e2:(j:Int)+1<l.length:=by omega
  have w1:IntKind.wrap .i64 (j:Int)=j:=wrap_i64 (by omega) (by omega);simp[e1,e0,e2,hr1,hr2,w1,hk1,hk2,hgx,hgy];refine CI.ff (cB.of (zio x y hx hy) call314 rfl rfl) rfl rfl rfl ?_;simp;refine⟨by decide+kernel,?_⟩;have e3:¬x.n-y.n<0:=by omega
  simp[e3];refine hB _ ⟨j+1,by omega⟩ [] ?_ (by simp);constructor<;>simp[w1,e1]
 ·exact aB (by simp) rfl
theorem zgb (l:List G.Task)(kf:D)(p:G.Task->Bool)(hf:∀x∈l,cB prog (.d kf) [st (l8 x)] (bool (p x)))(hl:l.length<=9223372036854775807):Ct prog 378 [aC (l.map l8),.d kf] [] [] (int (jH p l)) []:=by
 refine Ct.B func378 ?_;simp;refine aQ.inv mixed rfl (ι:={k:Nat//k<=(l).length/\(l.take k).all (fun x=>!p x)=true}) (fun k=>[(0,aC (l.map l8)),(1,.d kf),(7,int l.length),(8,int k.1)]) (fun k=>[]) 64 (fun k=>(l).length-k.1) ⟨0,by omega,by simp⟩ [] (by constructor<;>simp) ?_;rintro⟨k,hk1,hi⟩ B hB;refine CI.n ?_;simp;refine aJ (fun h=>?_) (fun h=>?_)
 ·have hk:k<(l).length:=by simpa using h
  obtain⟨r,hx,hr,hm,ht,hd,hw⟩:=dL hk;simp only[h];simp[hr,hw];refine CI.ff (hf r hm) rfl rfl rfl ?_;simp;refine aJ (fun hp=>?_) (fun hp=>?_)<;>simp only[hp]<;>simp
  ·exact aB (by simp[yE hi hr hp]) rfl
  ·refine hB _ ⟨k+1,by omega,by simp[ht,hi,hp]⟩ [] ?_ (by simp;omega);constructor<;>simp[hw,ht,hp]
 ·obtain rfl:k=(l).length:=by simp at h;omega
  simp only[h];simp;rw[fA]at hi;exact aB (by simp[yD (fun x hx=>by have:=eF.1 hi x hx;simpa using this)]) rfl
theorem Su (l:List G.Task)(kf:D)(p:G.Task->Bool)(hf:∀x∈l,cB prog (.d kf) [st (l8 x)] (bool (p x)))(hl:l.length<=9223372036854775807):Ct prog 316 [aC (l.map l8),.d kf] [] [] (bool (l.any p)) []:=by
 refine Ct.B func316 ?_;simp;refine CI.p (zgb l kf p hf hl) ?_;simp;rw[CU];exact aB (by simp) rfl
theorem zbD (t:G.Task):Ct prog 318 [st (l8 t)] [] [] (bool (lL t.r&&kU t.r)) []:=by
 refine Ct.B func318 ?_;simp;refine CI.p (Fo t.r) ?_;simp;refine bX (fun h1=>?_) (fun h1=>?_)<;>simp only[h1]<;>simp
 ·refine CI.p (V1 t.r) ?_;simp;exact aB (by simp[h1]) rfl
 ·exact aB (by simp[h1]) rfl
theorem Xy (t:G.Task):Ct prog 317 [st (l8 t)] [] [] (bool (!(lL t.r&&kU t.r))) []:=by
 refine Ct.B func317 ?_;simp;refine CI.p (zbD t) ?_;simp;exact aB (by simp) rfl
theorem zbC (t:G.Task):Ct prog 319 [st (l8 t)] [] [] (bool (kU t.r)) []:=by
 refine Ct.B func319 ?_;simp;refine CI.p (V1 t.r) ?_;simp;exact aB (by simp) rfl
theorem zbr (p:jO)(h:zY p):Ct prog 240 [st (EH p)] [] [] (bool true) []:=by
 refine Ct.B func240 ?_;simp;have c0:=h.n0;have c1:=h.n1;have c2:=h.lt;have c3:=h.ld;have c4:¬p.next<0:=by omega
 have c5:¬100000<p.next:=by omega
 have c6:¬(64:Int)<p.tasks.length:=by omega
 have c7:¬(1000:Int)<p.done.length:=by omega
 simp[c4,c5,c6,c7];refine CI.p (Zw p.tasks (by omega) h.up (fun t ht=>by have:=h.rt t ht;omega)) ?_;simp;refine CI.cc [1472] (Kc p.tasks [] p.next h.rt (by simpa using XA h.up) (by omega)) ?_ (ha:=by simp[MF]) (hk:=by simp[MF]);simp[MF];refine CI.cc [1472] (Kc p.done (p.tasks.map Task.n) p.next h.rd (zey h) (by omega)) ?_;simp;refine CI.p (Su p.tasks (dX 317) (fun t=>!(lL t.r&&kU t.r)) (fun t _=>cB.of (Xy t) call317 rfl rfl) (by omega)) ?_;simp;have e1:p.tasks.any (fun t=>!lL t.r|| !kU t.r)=false:=by
  rw[BZ];intro t ht;have:=h.run t ht;simp[this.1,this.2]
 have e2:p.done.any (fun t=>kU t.r)=false:=by
  rw[BZ];intro t ht;have:=h.over t ht;simp[this]
 simp[e1];refine CI.p (Su p.done (dX 319) (fun t=>kU t.r) (fun t _=>cB.of (zbC t) call319 rfl rfl) (by omega)) ?_;simp;exact aB (by simp[e2]) rfl
theorem Du (p:jO)(h:zY p):Ct prog 180 [st (EH p)] [] [] (st (EH p)) []:=by
 refine Ct.B func180 ?_;simp;refine CI.p (zbr p h) ?_;simp;exact aB (by simp) rfl
theorem zit (x:G.Task)(l:List G.Task)(hl:l.length<=1000000):Ct prog 181 [aC ((x::l).map l8)] [] [] (.own 64) [(64,.grow 13 ((x::l).map l8) 220)]:=by
 refine Ct.B func181 ?_;simp;refine⟨by omega,?_⟩;exact⟨[(64,384)],by constructor<;>simp[aV,aW]⟩
theorem ziy :Ct prog 181 [aC []] [] [] (.own 64) [(64,.grow 13 [] 220)]:=by
 refine Ct.BS func181 mixed 2 400 ?_;simp;refine⟨?_,?_⟩
 ·refine CI.SP mixed (ι:=Unit) (fun _=>[(2,.d (.v (.slice none 0 0)))]) (fun _=>[]) 65 rfl (fun B hB=>?_) (fun _=>?_)
  ·refine CI.n ?_;simp;refine hB _ () [] ?_;constructor<;>simp
  ·refine CI.j1 2 13 220 rfl rfl ?_;refine CI.n ?_;simp;exact⟨[(64,65)],by constructor<;>simp[aV,aW]⟩
 ·skip
  exact⟨[(64,384)],by constructor<;>simp[aV,aW]⟩
theorem SV (l:List G.Task)(hl:l.length<=1000000):Ct prog 181 [aC (l.map l8)] [] [] (.own 64) [(64,.grow 13 (l.map l8) 220)]:=by
 cases l with
 |nil=>exact ziy
 |cons x l=>exact zit x l (by simp at hl;omega)
theorem zh3 (l:List (List D))(k:Nat)(hk:k<l.length):Ct prog 185 [.own 0,int k,int ((k:Int)+1)] [] [(0,.grow 13 l 220)] (aC (l.eraseIdx k)) []:=
 Ct.Qy zh2 (by kernel_rfl) UX rfl rfl rfl (by decide) hk
theorem Zc (p:jO)(a:G.Ask)(h:zY p):Ct prog 124 [st (EH p),st (sM a)] [] [] (.bI [st (EH (mR p a).1),int (mR p a).2.1,int (mR p a).2.2]) []:=by
 refine Ct.B func124 ?_;simp;refine CI.p (Du p h) ?_;simp;have c0:=h.n0;have c1:=h.n1;have c2:=h.lt;by_cases h1:64<=p.tasks.length
 ·have h1':(64:Int)<=p.tasks.length:=by omega
  simp[h1'];exact aB (by simp[mR,h1]) rfl
 ·have h1':¬(64:Int)<=p.tasks.length:=by omega
  by_cases h2:p.next=100000
  ·simp[h1',h2];exact aB (by simp[mR,h1,h2]) rfl
  ·have w1:=wrap_i64 (n:=p.next+1) (by omega) (by omega);simp[h1',h2,w1];refine CI.cc [] (SV p.tasks (by omega)) ?_;simp;refine CI.p (Ky a) ?_;simp;refine⟨by omega,?_⟩;refine⟨by decide+kernel,?_⟩;refine⟨by decide+kernel,?_⟩;exact aB (by simp[mR,h1,h2,oU]) rfl
theorem zdu (l:List G.Task)(t:G.Task)(hl:l.length<=1000000):Ct prog 186 [aC (l.map l8),st (l8 t)] [] [] (aC ((x5 l t).map l8)) []:=by
 refine Ct.B func186 ?_;simp;have w1:=wrap_i64 (n:=(l.length:Int)-1000) (by omega) (by omega);have w2:=wrap_i64 (n:=(l.length:Int)-1000+1) (by omega) (by omega);by_cases h1:l.length<=999
 ·have h2:¬(0:Int)<(l.length:Int)-1000+1:=by omega
  have h3:l.length-999=0:=by omega
  simp[w1,w2,h2];refine CI.cc [] (SV l hl) ?_;simp;refine⟨by omega,?_⟩;refine⟨by decide+kernel,?_⟩;exact aB (by simp[x5,h3]) rfl
 ·obtain⟨m,h3⟩:∃m,l.length=m+999:=⟨l.length-999,by omega⟩;have h2:(0:Int)<(l.length:Int)-1000+1:=by omega
  have h4:(l.length:Int)-1000+1=(m:Int):=by omega
  have h5:0<m:=by omega
  have h6:(m:Int)<=l.length:=by omega
  have w3:IntKind.wrap .i64 (m:Int)=m:=wrap_i64 (by omega) (by omega);have h7:l.length-999=m:=by omega
  have h8:l.drop m=l.drop (l.length-999):=by rw[h7]
  simp[w1,w3,h4,h5,h6];rw[<-List.map_drop];refine CI.cc [] (SV (l.drop m) (by simp;omega)) ?_;simp;refine⟨⟨zfy m (by simp),by omega⟩,?_⟩;refine⟨by decide+kernel,?_⟩;exact aB (by simp[x5,h7]) rfl
theorem zdj (p:jO)(s:bB)(draw:Int)(h:zY p)(ho:fT s)(hs:nK s.p)(ha:∀t∈p.tasks,(bs t.r.a.host).length<=1000000/\(bs t.r.a.path).length<=1000000):Ct prog 125 [st (EH p),st (jQ s),int draw] [] [] (.bI [st (EH (eI p s draw).1),st (jQ (eI p s draw).2.1),aC ((eI p s draw).2.2.1.map fY),int (eI p s draw).2.2.2]) []:=by
 refine Ct.B func125 ?_;simp;refine CI.p (Du p h) ?_;simp;have c2:=h.lt;have c3:=h.ld;by_cases h1:p.tasks=[]
 ·have e:eI p s draw=(⟨p.next,[],p.done⟩,s,[],10):=by
   obtain⟨n,T,D⟩:=p;simp only at h1;subst h1;rfl
  rw[e];simp[h1];refine⟨by decide+kernel,?_⟩;exact aB (by simp) rfl
 ·have hl:0<p.tasks.length:=xI.2 h1;obtain⟨e1,e2⟩:=WO p draw hl;have hr:p.tasks[oC p draw]? =some p.tasks[oC p draw]:=cI e2;have hm:p.tasks[oC p draw]∈p.tasks:=lU e2;unfold eI;generalize oC p draw=k at*;generalize hg:p.tasks[k]=t at*;rw[hr];dsimp only;simp[h1,e1,e2,hg];obtain⟨ha1,ha2⟩:=ha t hm;refine CI.p (Yr t.r s ho hs ha1 ha2) ?_;simp;generalize mQ t.r s=w;refine CI.cc [] (SV p.tasks (by omega)) ?_ (ha:=by simp[e2]) (hk:=by simp[e2]);simp[e2];refine CI.p (V1 w.r) ?_;simp;cases h2:kU w.r with
  |true=>
   simp[h2];refine⟨by decide+kernel,?_⟩;exact aB (by simp[h2]) rfl
  |false=>
   have w1:=wrap_i64 (n:=(k:Int)+1) (by omega) (by omega);simp[h2,w1];refine CI.cc [2880] (zh3 ((p.tasks.map l8).set k (l8 ⟨t.n,w.r⟩)) k (by simpa using e2)) ?_;simp;refine CI.p (zdu p.done ⟨t.n,w.r⟩ (by omega)) ?_;simp;refine⟨by decide+kernel,?_⟩;exact aB (by simp[h2,ZF,List.eraseIdx_set_eq]) rfl
end Go.Proofs.YtegplpagkajolaaGreatDoor
