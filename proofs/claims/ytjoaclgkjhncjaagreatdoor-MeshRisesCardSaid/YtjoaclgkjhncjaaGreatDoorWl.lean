/-
  LAYERS 18 to 23: the walks of picking, of pins by their places, of requests, of their pool.
-/
import Derived.Test.YtjoaclgkjhncjaaGreatDoorWk
import Derived.Test.YtjoaclgkjhncjaaGreatDoorPq
import Derived.Test.YtjoaclgkjhncjaaGreatDoorWb
import Derived.Test.YtjoaclgkjhncjaaGreatDoorFd
import Derived.Shelf.Lays2
import Derived.Shelf.RegionOpenPlain
import Derived.WalkKit
import Derived.Deep.LoopGhost
import Derived.Deep.RegionLaw
import Derived.Lib.Walk
import Derived.Sort.WalkB12
import Derived.Sort.EncStr
import Derived.Lib.SliceRun
import Derived.Lib.SlicesDelete
import Derived.Test.YtjoaclgkjhncjaaGreatDoorWi
set_option linter.unusedSimpArgs false
set_option linter.unusedVariables false
namespace Go.Proofs.YtjoaclgkjhncjaaGreatDoor
open Go.AI Go.G
set_option maxRecDepth 20000
theorem qx4 (s p:Str):Ct Tryz.prog 400 [str s,str p] [] [] (bool (pfx s p)) []:=zqk s p
theorem qrn (s p:Str):Ct Tryz.prog 383 [str s,str p] [] [] (bool (pfx s p)) []:=zse s p
attribute [simp] Tryz.ntmps403 Tryz.results403
theorem qjz (s p:Str):Ct Tryz.prog 403 [str s,str p] [] [] (.tup [str (cutS s p),bool (pfx s p)]) []:=by
 refine Ct.B Tryz.func403 mixed 9999 400 ?_;simp;have hs:=zbq s;have hp:=zbq p;refine CI.p (qx4 s p) Tryz.call400 9999 ?_;simp;unfold cutS;cases h1:pfx s p with
 |false=>
  simp[h1];first|exact fin0 (by simp) rfl|exact zaa (by simp)
 |true=>
  have h1':(bs p).length≤(bs s).length:=by
   simp only[pfx,Bool.and_eq_true,decide_eq_true_eq]at h1;exact h1.1
  simp[h1,hs,hp];refine⟨by omega,?_⟩;first|exact fin0 (by simp) rfl|exact zaa (by simp)
attribute [simp] Tryz.ntmps394 Tryz.results394
theorem zsm (s p:Str):Ct Tryz.prog 394 [str s,str p] [] [] (.tup [str (cutS s p),bool (pfx s p)]) []:=by
 refine Ct.B Tryz.func394 mixed 9999 400 ?_;simp;refine CI.p (qjz s p) Tryz.call403 9999 ?_;simp;first|exact fin0 (by simp) rfl|exact zaa (by simp)
attribute [simp] Tryz.ntmps404 Tryz.results404
theorem qi7 (s p:Str)(hl:(bs s).length≤1000000):Ct Tryz.prog 404 [str s,str p] [] [] (bool (sfx s p)) []:=by
 refine Ct.B Tryz.func404 mixed 9999 400 ?_;simp;have hs:=zbq s;have hp:=zbq p;unfold sfx;simp[hs,hp];have e:decide (s.extract ((bs s).length-(bs p).length) (bs s).length=p)=decide ((bs s).drop ((bs s).length-(bs p).length)=bs p):=decide_eq_decide.2 (by rw[zvi,zz3]);refine sGI (fun h1=>?_) (fun h1=>?_)<;>simp only[h1]<;>simp[hs,hp]
 ·have h1':=of_decide_eq_true h1;have w1:IntKind.wrap .i64 (((bs s).length:Int)-(bs p).length)=((bs s).length-(bs p).length:Nat):=by rw[zab (by omega) (by omega)];omega
  simp[w1];rw[←e];first|exact fin0 (by simp[h1]) rfl|exact zaa (by simp[h1])
 ·first|exact fin0 (by simp[h1]) rfl|exact zaa (by simp[h1])
attribute [simp] Tryz.ntmps395 Tryz.results395
theorem zsd (s p:Str)(hl:(bs s).length≤1000000):Ct Tryz.prog 395 [str s,str p] [] [] (bool (sfx s p)) []:=by
 refine Ct.B Tryz.func395 mixed 9999 400 ?_;simp;refine CI.p (qi7 s p hl) Tryz.call404 9999 ?_;simp;first|exact fin0 (by simp) rfl|exact zaa (by simp)
attribute [simp] Tryz.ntmps375 Tryz.results375
theorem qij (p h:Str)(hp:(bs p).length≤1000000)(hh:(bs h).length≤1000000):Ct Tryz.prog 375 [str p,str h] [] [] (bool (znq p h)) []:=by
 refine Ct.B Tryz.func375 mixed 9999 400 ?_;simp;have hs:=zbq h;have hq:=zbq (cutS p ⟨#[42]⟩);unfold znq;refine CI.p (qi3 p) Tryz.call336 9999 ?_;simp;cases h1:zm0 p with
 |false=>
  simp[h1];first|exact fin0 (by simp) rfl|exact zaa (by simp)
 |true=>
  simp[h1];refine CI.p (qi3 h) Tryz.call336 9999 ?_;simp;cases h2:zm0 h with
  |false=>
   simp[h2];first|exact fin0 (by simp) rfl|exact zaa (by simp)
  |true=>
   simp[h2];refine CI.p (qrn h ⟨#[42]⟩) Tryz.call383 9999 ?_;simp;cases h3:pfx h ⟨#[42]⟩with
   |true=>
    simp[h3];first|exact fin0 (by simp) rfl|exact zaa (by simp)
   |false=>
    simp[h3];by_cases h4:p=⟨#[42]⟩
    ·simp[h4];first|exact fin0 (by simp) rfl|exact zaa (by simp)
    ·by_cases h5:p=h
     ·subst h5;simp[h4];first|exact fin0 (by simp) rfl|exact zaa (by simp)
     ·simp[h4,h5];refine CI.p (zsm p ⟨#[42]⟩) Tryz.call394 9999 ?_;simp;cases h6:pfx p ⟨#[42]⟩with
      |false=>
       simp[h6];first|exact fin0 (by simp[h6]) rfl|exact zaa (by simp[h6])
      |true=>
       simp[h6];by_cases h7:(bs (cutS p ⟨#[42]⟩)).length<(bs h).length
       ·simp[h7,hs,hq];refine CI.p (zsd h (cutS p ⟨#[42]⟩) hh) Tryz.call395 9999 ?_;simp;first|exact fin0 (by simp[h6,h7]) rfl|exact zaa (by simp[h6,h7])
       ·simp[h7,hs,hq];first|exact fin0 (by simp[h6,h7]) rfl|exact zaa (by simp[h6,h7])
attribute [simp] Tryz.ntmps376 Tryz.results376
theorem qpp (p s:Str)(hp:(bs p).length≤1000000)(hh:(bs s).length≤1000000):Ct Tryz.prog 376 [str p,str s] [] [] (bool (zo7 p s)) []:=by
 refine Ct.B Tryz.func376 mixed 9999 400 ?_;simp;unfold zo7;refine CI.p (zsm s p) Tryz.call394 9999 ?_;simp;cases h1:pfx s p with
 |false=>
  simp[h1];first|exact fin0 (by simp) rfl|exact zaa (by simp)
 |true=>
  simp[h1];refine CI.p (qho p) Tryz.call337 9999 ?_;simp;cases h2:zkh p with
  |false=>
   simp[h2];first|exact fin0 (by simp) rfl|exact zaa (by simp)
  |true=>
   simp[h2];refine CI.p (qho s) Tryz.call337 9999 ?_;simp;cases h3:zkh s with
   |false=>
    simp[h3];first|exact fin0 (by simp) rfl|exact zaa (by simp)
   |true=>
    simp[h3];by_cases h4:cutS s p=⟨#[]⟩
    ·simp[h4];first|exact fin0 (by simp[h4]) rfl|exact zaa (by simp[h4])
    ·simp[h4];refine CI.p (zsd p ⟨#[47]⟩ hp) Tryz.call395 9999 ?_;simp;cases h5:sfx p ⟨#[47]⟩with
     |true=>
      simp[h5];first|exact fin0 (by simp[h4,h5]) rfl|exact zaa (by simp[h4,h5])
     |false=>
      simp[h5];refine CI.p (qrn (cutS s p) ⟨#[47]⟩) Tryz.call383 9999 ?_;simp;first|exact fin0 (by simp[h4,h5]) rfl|exact zaa (by simp[h4,h5])
attribute [simp] Tryz.ntmps405 Tryz.results405
theorem qfi (s:Str):Ct Tryz.prog 405 [str s] [] [] (int (zrk s)) []:=by
 refine Ct.B Tryz.func405 mixed 9999 400 ?_;simp;have hs:=zbq s;unfold zrk;by_cases h1:s=⟨#[42]⟩
 ·simp[h1];first|exact fin0 (by simp) rfl|exact zaa (by simp)
 ·simp[h1];refine CI.p (qrn s ⟨#[42,46]⟩) Tryz.call383 9999 ?_;simp;cases h2:pfx s ⟨#[42,46]⟩with
  |true=>
   simp[h2];first|exact fin0 (by simp[hs]) rfl|exact zaa (by simp[hs])
  |false=>
   simp[h2];first|exact fin0 (by simp) rfl|exact zaa (by simp)
attribute [simp] Tryz.ntmps396 Tryz.results396
theorem qmi (a b:Str):Ct Tryz.prog 396 [str a,str b] [] [] (int (zki a b)) []:=by
 refine Ct.B Tryz.func396 mixed 9999 400 ?_;simp;refine CI.p (qfi a) Tryz.call405 9999 ?_;simp;refine CI.p (qfi b) Tryz.call405 9999 ?_;simp;refine CI.p (zx2 (zrk a) (zrk b)) Tryz.call98 9999 ?_;simp;first|exact fin0 (by simp[zki,cmpI]) rfl|exact zaa (by simp[zki,cmpI])
attribute [simp] Tryz.ntmps377 Tryz.results377
theorem qtt (a b:Rule):Ct Tryz.prog 377 [st (zbk a),st (zbk b)] [] [] (bool (qcq a b)) []:=by
 refine Ct.B Tryz.func377 mixed 9999 400 ?_;simp;have hs:=zbq a.pre;have hq:=zbq b.pre;unfold qcq;refine CI.p (qmi a.host b.host) Tryz.call396 9999 ?_;simp;by_cases h1:0<zki a.host b.host
 ·simp[h1];first|exact fin0 (by simp) rfl|exact zaa (by simp)
 ·by_cases h2:zki a.host b.host<0
  ·simp[h1,h2];first|exact fin0 (by simp) rfl|exact zaa (by simp)
  ·simp[h1,h2];first|exact fin0 (by simp[hs,hq]) rfl|exact zaa (by simp[hs,hq])
end Go.Proofs.YtjoaclgkjhncjaaGreatDoor
namespace Go.Proofs.YtjoaclgkjhncjaaGreatDoor
open Go.AI Go.G
set_option maxRecDepth 20000
attribute [simp] Tryz.ntmps373 Tryz.results373
theorem qw9 (l:List Rule)(kf:D)(may:Rule→Bool)(hf:∀x∈l,FnOk Tryz.prog (.d kf) [st (zbk x)] (bool (may x)))(hl:l.length≤1000000):Ct Tryz.prog 373 [lst (l.map zbk),.d kf,.d (fnD 377)] [] [] (.tup [st (zbk (l.foldl (zbu may) (zRule,false)).1),bool (l.foldl (zbu may) (zRule,false)).2]) []:=by
 refine Ct.B Tryz.func373 mixed 9999 400 ?_;simp;refine LoopI.U mixed (l) (fun k=>[(1,.d kf),(2,.d (fnD 377)),(6,.ptr 65 0),(8,.ptr 64 0),(9,bool ((l.take k.1).foldl (zbu may) (zRule,false)).2),(12,lst (l.map zbk)),(13,int l.length),(14,int k.1)]) (fun k=>[(64,.cells [str ((l.take k.1).foldl (zbu may) (zRule,false)).1.host,str ((l.take k.1).foldl (zbu may) (zRule,false)).1.pre,lst (((l.take k.1).foldl (zbu may) (zRule,false)).1.split.map wC)] 160),(65,.cells [str ⟨#[]⟩,str ⟨#[]⟩,lst []] 160)]) 66 [] (by constructor<;>simp) ?_;rintro⟨k,hk1⟩ B hB;refine CI.run 9999 400 rfl ?_;simp;refine sBI (fun h=>?_) (fun h=>?_)
 ·have hk:k<(l).length:=by simpa using h
  obtain⟨r,hx,hr,hm,ht,hd⟩:=inL hk;have hw:=wr (k:=k) (by omega);simp only[h];simp[hr,hw];generalize hz:(l.take k).foldl (zbu may) (zRule,false)=z;refine CI.ff (hf r hm) rfl rfl rfl 9999 ?_;simp;cases h1:may r with
  |false=>
   have e:zbu may z r=z:=by simp[zbu,h1]
   simp[h1];refine hB _ ⟨k+1,by omega⟩ [] ?_ (by simp;omega);constructor<;>simp[hw,ht,hz,e]
  |true=>
   simp[h1];cases h2:z.2 with
   |false=>
    have e:zbu may z r=(r,true):=by simp[zbu,h1,h2]
    simp[h2];refine hB _ ⟨k+1,by omega⟩ [] ?_ (by simp;omega);constructor<;>simp[hw,ht,hz,e]
   |true=>
    simp[h2];refine CI.ff (FnOk.of (qtt r z.1) Tryz.call377 rfl rfl) rfl rfl rfl 9999 ?_;simp;cases h3:qcq r z.1 with
    |true=>
     have e:zbu may z r=(r,true):=by simp[zbu,h1,h3]
     simp[h3];refine hB _ ⟨k+1,by omega⟩ [] ?_ (by simp;omega);constructor<;>simp[hw,ht,hz,e]
    |false=>
     have e:zbu may z r=z:=by simp[zbu,h1,h2,h3]
     simp[h3];refine hB _ ⟨k+1,by omega⟩ [] ?_ (by simp;omega);constructor<;>simp[hw,ht,hz,e,h2]
 ·have hkl:k=(l).length:=by simp at h;omega
  subst hkl;simp only[h];simp[List.take_length,List.drop_length];first|exact fin0 (by simp) rfl|exact zaa (by simp)
attribute [simp] Tryz.ntmps374 Tryz.results374
theorem qq5 (r:Rule)(h s:Str)(hh:(bs h).length≤1000000)(hs:(bs s).length≤1000000)(hr:(bs r.host).length≤1000000)(hp:(bs r.pre).length≤1000000):Ct Tryz.prog 374 [st (zbk r),.d (.pro [sD h]),.d (.pro [sD s])] [] [] (bool (znq r.host h&&zo7 r.pre s)) []:=by
 refine Ct.B Tryz.func374 mixed 9999 400 ?_;simp;refine CI.p (qij r.host h hr hh) Tryz.call375 9999 ?_;simp;cases h1:znq r.host h with
 |false=>
  simp[h1];first|exact fin0 (by simp) rfl|exact zaa (by simp)
 |true=>
  simp[h1];refine CI.p (qpp r.pre s hp hs) Tryz.call376 9999 ?_;simp;first|exact fin0 (by simp) rfl|exact zaa (by simp)
attribute [simp] Tryz.ntmps327 Tryz.results327
theorem qrc (l:List Rule)(h s:Str)(hh:(bs h).length≤1000000)(hs:(bs s).length≤1000000)(hr:∀r∈l,(bs r.host).length≤1000000∧(bs r.pre).length≤1000000)(hl:l.length≤1000000):Ct Tryz.prog 327 [lst (l.map zbk),str h,str s] [] [] (.tup [st (zbk (zq6 l h s).1),bool (zq6 l h s).2]) []:=by
 refine Ct.B Tryz.func327 mixed 1 400 ?_;simp;refine CI.s (tm:=[(0,lst (l.map zbk)),(4,.d (.pro [sD h])),(5,.d (.pro [sD s])),(6,.ptr 192 0)]) (mm:=[(192,.cells [str ⟨#[]⟩,str ⟨#[]⟩,lst []] 160)]) (nx:=193) [] [64,128] (by constructor<;>simp) ?_;refine CI.run 9999 400 rfl ?_;simp;refine CI.p (qw9 l (.fn (.func 374) [] [.pro [sD h],.pro [sD s]]) (fun r=>znq r.host h&&zo7 r.pre s) (fun r hr'=>FnOk.clo (qq5 r h s hh hs (hr r hr').1 (hr r hr').2) Tryz.call374 rfl rfl) hl) Tryz.call373 9999 ?_;simp;first|exact fin0 (by simp[zq6]) rfl|exact zaa (by simp[zq6])
attribute [simp] Tryz.ntmps379 Tryz.results379
theorem qan (w:Weight):Ct Tryz.prog 379 [st (wC w)] [] [] (int (zbt w)) []:=by
 refine Ct.B Tryz.func379 mixed 9999 400 ?_;simp;have e:=bndW w.w;first|exact fin0 (by simp[e,zbt]) rfl|exact zaa (by simp[e,zbt])
attribute [simp] Tryz.ntmps378 Tryz.results378
theorem qpt (l:List Weight)(hl:l.length≤1000000):Ct Tryz.prog 378 [lst (l.map wC)] [] [] (int (zgi l)) []:=by
 refine Ct.B Tryz.func378 mixed 9999 400 ?_;simp;refine LoopI.U mixed (l) (fun k=>[(3,int (zgi (l.take k.1))),(6,lst (l.map wC)),(7,int l.length),(8,int k.1)]) (fun k=>[]) 64 [] (by constructor<;>simp[zrl]) ?_;rintro⟨k,hk1⟩ B hB;refine CI.run 9999 400 rfl ?_;simp[zrl];refine sBI (fun h=>?_) (fun h=>?_)
 ·have hk:k<(l).length:=by simpa using h
  obtain⟨w,hx,hr,hm,ht,hd⟩:=inL hk;have hw:=wr (k:=k) (by omega);simp only[h];simp[hr,hw];have hb:=zrm (l.take k);have hwb:=zj8 w;have hlen:(l.take k).length≤1000000:=by simp;omega
  have w1:IntKind.wrap .i64 (zgi (l.take k)+zbt w)=zgi (l.take k)+zbt w:=zab (by omega) (by omega);refine CI.p (qan w) Tryz.call379 9999 ?_ (ha:=by simp[w1]);simp[w1];refine hB _ ⟨k+1,by omega⟩ [] ?_ (by simp;omega);constructor<;>simp[hw,ht,qc7]
 ·have hkl:k=(l).length:=by simp at h;omega
  subst hkl;simp only[h];simp[List.take_length,List.drop_length];first|exact fin0 (by simp) rfl|exact zaa (by simp)
attribute [simp] Tryz.ntmps328 Tryz.results328
theorem qnv (l:List Weight)(draw:Int)(hl:l.length≤1000000):Ct Tryz.prog 328 [lst (l.map wC),int draw] [] [] (.tup [str (zo1 l draw).1,bool (zo1 l draw).2]) []:=by
 refine Ct.B Tryz.func328 mixed 9999 400 ?_;simp;have hb:=zrm l;refine CI.p (qpt l hl) Tryz.call378 9999 ?_;simp;unfold zo1;generalize zgi l=n at*;by_cases hn:n=0
 ·simp[hn];first|exact fin0 (by simp) rfl|exact zaa (by simp)
 ·have hn1:¬(n:Int)=0:=hn;have e0:(if 0<draw then draw else 0).tmod n=(max 0 draw).tmod n:=by rw[show(if 0<draw then draw else 0)=max 0 draw by omega]
  have h2:=Int.tmod_lt_of_pos (max 0 draw) (b:=n) (by omega);have h3:=Int.tmod_nonneg (a:=max 0 draw) n (by omega);simp[hn,e0];generalize(max 0 draw).tmod n=n0 at*;refine LoopI.inv mixed rfl (ι:={z:Nat×Int//z.1≤l.length∧ChI l n0 z.1 z.2}) (fun k=>[(7,int k.1.2),(18,lst (l.map wC)),(19,int l.length),(20,int k.1.1)]) (fun k=>[]) 64 (fun k=>l.length-k.1.1) ⟨(0,n0),by omega,⟨rfl,h3,Int.le_refl _⟩⟩ [] (by constructor<;>simp) ?_;rintro⟨⟨k,left⟩,hk1,hI⟩ B hB;simp only at hk1 hI;refine CI.run 9999 400 rfl ?_;simp;refine sBI (fun h=>?_) (fun h=>?_)<;>simp only[h]<;>simp<;>(try simp only[nT,nF,dT,dF]at h)
  ·have hk:k<l.length:=by simpa using h
   obtain⟨w,hx,hr,hm,ht,hd⟩:=inL hk;have hw:=wr (k:=k) (by omega);have hwb:=zj8 w;have l0:=hI.l0;have l1:=hI.l1;obtain⟨s1,s2⟩:=hI.step hd;have w1:IntKind.wrap .i64 (left-zbt w)=left-zbt w:=zab (by omega) (by omega);simp[hr,hw];refine CI.p (qan w) Tryz.call379 9999 ?_ (ha:=by simp[w1]);simp[w1];refine sBI (fun h3=>?_) (fun h3=>?_)<;>simp only[h3]<;>simp<;>(try simp only[nT,nF,dT,dF]at h3)
   ·first|exact fin0 (by simp[s1 h3]) rfl|exact zaa (by simp[s1 h3])
   ·refine hB _ ⟨(k+1,left-zbt w),hk,s2 h3⟩ [] ?_ (by simp;omega);constructor<;>simp[hw,w1]
  ·have hkl:k=l.length:=by simp at h;omega
   subst hkl;first|exact fin0 (by simp[hI.last]) rfl|exact zaa (by simp[hI.last])
attribute [simp] Tryz.ntmps329 Tryz.results329
theorem qrl (l:List Int)(draw:Int)(hl:l.length≤1000000):Ct Tryz.prog 329 [lst (l.map intC),int draw] [] [] (.tup [int (znu l draw).1,bool (znu l draw).2]) []:=by
 refine Ct.B Tryz.func329 mixed 9999 400 ?_;simp;by_cases hq:l=[]
 ·subst hq;simp;first|exact fin0 (by simp[znu]) rfl|exact zaa (by simp[znu])
 ·obtain⟨k,e1,e2,e3⟩:=qi4 draw hq;have hz:¬(l.length:Int)=0:=by have:=List.length_pos_iff.2 hq;omega
  simp[hq,e1,e2];first|exact fin0 (by simp[e3,e2]) rfl|exact zaa (by simp[e3,e2])
end Go.Proofs.YtjoaclgkjhncjaaGreatDoor
namespace Go.Proofs.YtjoaclgkjhncjaaGreatDoor
open Go.AI Go.G Go.Shelf Go.RowKit Go.Lib Go.Sort
set_option maxRecDepth 1000000
set_option maxHeartbeats 4000000 in
theorem zz8 :qc1 Tryz.prog 397 3 56:=by
 intro blk cap k len news w W2 hk hlen hm A hA hsrc s1 s2 s3 hcl;have t22:Tryz.prog.underlying 56=some (.slice 78):=by kernel_rfl
 obtain⟨i0,d0,z0,hi0,_,_,hti⟩:=zah ti78;have hz1:i0.size=3:=(congrArg TI.sz hti).symm;obtain⟨W1,hW1⟩:∃W1,W1=w.drew.setCells blk (0+k*3) news:=⟨_,rfl⟩;rw[←hW1]at hcl;have hW:Hid (W1=w.drew.setCells blk (0+k*3) news):=hW1;have hic:k≤cap:=by omega
 have hb1:(0:Int)≤(k:Int)+1:=by omega
 have hb2:(k:Int)+1≤len:=by omega
 have mixed:Tryz.prog.follows .mixedOrders=true:=mixed;have hjc:k+1≤cap:=by omega
 clear hW1
 go_enter Tryz.func397,Tryz.ntmps397
 go_wp2_with fail
 go_region_law_o (refine step_append_room rfl (.tmp 22) (.tmp 25) 56 rfl 78 i0 3 t22 hi0 hz1 blk 0 k cap (by simp[Act.eval,Act.put]) A (len-(k+1)) (cap-(k+1)) news (by simp[Act.eval,Act.put]) s1.out hsrc.out s2.out (by omega) s3.out ?_;rw[←hW.out])
 go_wp2
 go_ret
 refine⟨by rw[show len-1=k+(len-(k+1)) by omega];rfl,rfl⟩
set_option maxHeartbeats 4000000 in
theorem zz7 :qc1 Tryz.prog 196 13 116:=by
 intro blk cap k len news w W2 hk hlen hm A hA hsrc s1 s2 s3 hcl;have t22:Tryz.prog.underlying 116=some (.slice 220):=by kernel_rfl
 obtain⟨i0,d0,z0,hi0,_,_,hti⟩:=zah qp1;have hz1:i0.size=13:=(congrArg TI.sz hti).symm;obtain⟨W1,hW1⟩:∃W1,W1=w.drew.setCells blk (0+k*13) news:=⟨_,rfl⟩;rw[←hW1]at hcl;have hW:Hid (W1=w.drew.setCells blk (0+k*13) news):=hW1;have hic:k≤cap:=by omega
 have hb1:(0:Int)≤(k:Int)+1:=by omega
 have hb2:(k:Int)+1≤len:=by omega
 have mixed:Tryz.prog.follows .mixedOrders=true:=mixed;have hjc:k+1≤cap:=by omega
 clear hW1
 go_enter Tryz.func196,Tryz.ntmps196
 go_wp2_with fail
 go_region_law_o (refine step_append_room rfl (.tmp 22) (.tmp 25) 116 rfl 220 i0 13 t22 hi0 hz1 blk 0 k cap (by simp[Act.eval,Act.put]) A (len-(k+1)) (cap-(k+1)) news (by simp[Act.eval,Act.put]) s1.out hsrc.out s2.out (by omega) s3.out ?_;rw[←hW.out])
 go_wp2
 go_ret
 refine⟨by rw[show len-1=k+(len-(k+1)) by omega];rfl,rfl⟩
end Go.Proofs.YtjoaclgkjhncjaaGreatDoor
namespace Go.Proofs.YtjoaclgkjhncjaaGreatDoor
open Go.AI Go.G
set_option maxRecDepth 20000
attribute [simp] Tryz.ntmps393 Tryz.results393
theorem qhh (p:Pins)(id:Int)(h:p.snaps.length≤1000000):Ct Tryz.prog 393 [st (ziw p),int id] [] [] (int (zcb p id)) []:=by
 refine Ct.of_body Tryz.func393 rfl mixed (by rw[Tryz.ntmps393];simp) (CI.seq (CI.cutTo mixed (ι:=Unit) (fun _=>[(1,int id),(2,.ptr 64 0)]) (fun _=>[(64,.cells [int p.next,lst (p.snaps.map zdd)] 58)]) 65 rfl (fun B hB=>CI.run 9999 400 rfl ?_) fun _=>?_))
 ·simp;refine hB _ () [] ?_;constructor<;>simp
 refine CI.jumps mixed (Plain.retC _ _ _ _ _) (ι:={k:Nat//k≤p.snaps.length∧zdm p.snaps id p.snaps.length=zdm p.snaps id k}) (fun k=>[(1,int id),(2,.ptr 64 0),(5,int ((k.1:Int)-1))]) (fun k=>[(64,.cells [int p.next,lst (p.snaps.map zdd)] 58)]) 65 (fun k=>k.1) ⟨p.snaps.length,Nat.le_refl _,rfl⟩ rfl (fun B hB=>?_) ?_
 ·refine CI.run 9999 400 rfl ?_;simp;refine CI.p (zuc p (by omega)) Tryz.call85 9999 ?_;simp;refine hB _ [] ?_;constructor<;>simp
 rintro⟨k,hk,e⟩ B hB;cases k with
 |zero=>
  refine CI.run 3 400 rfl ?_;simp;first|exact fin0 (by simp[zcb,e,zdm]) rfl|exact zaa (by simp[zcb,e,zdm])
 |succ j=>
  have hj:j<p.snaps.length:=by omega
  have e1:((j+1:Nat):Int)-1=j:=by omega
  have e2:p.snaps[j]? =some p.snaps[j]:=List.getElem?_eq_getElem hj;generalize hs:p.snaps[j]=s at*;by_cases hq:s.id=id
  ·have e3:zdm p.snaps id (j+1)=j:=by simp[zdm,e2,hq]
   refine CI.run 3 400 rfl ?_;simp[e1,e2,hj,hs,hq];first|exact fin0 (by simp[zcb,e,e3]) rfl|exact zaa (by simp[zcb,e,e3])
  ·have e3:zdm p.snaps id (j+1)=zdm p.snaps id j:=by simp[zdm,e2,hq]
   have w1:IntKind.wrap .i64 ((j:Int)-1)=j-1:=zab (by omega) (by omega);refine CI.run 3 400 rfl ?_;simp[e1,e2,hj,hs,hq,w1];refine CI.cutTo mixed (ι:=Unit) (fun _=>[(1,int id),(2,.ptr 64 0),(5,int ((j:Int)-1))]) (fun _=>[(64,.cells [int p.next,lst (p.snaps.map zdd)] 58)]) 65 rfl (fun B' hB'=>CI.run 9999 400 rfl ?_) fun _=>CI.goto ⟨rfl,hB _ ⟨j,by omega,by rw[e,e3]⟩ [] ?_ (by simp)⟩
   ·simp[w1];refine hB' _ () [] ?_;constructor<;>simp
   ·constructor<;>simp
theorem zqr (l:List Snap)(hne:l≠[])(hl:l.length≤1000000):Ct Tryz.prog 301 [lst (l.map zdd)] [] [] (.own 64) [(64,.grow 3 (l.map zdd) 78)]:=by
 cases l with
 |nil=>exact absurd rfl hne
 |cons x l=>exact zso x l (by simp at hl;omega)
attribute [simp] Tryz.ntmps370 Tryz.results370
theorem qx3 (p:Pins)(hp:OkPins p):Ct Tryz.prog 370 [st (ziw p)] [] [] (.tup [st (ziw (pinP p).1),int (pinP p).2.1,int (pinP p).2.2]) []:=by
 refine Ct.B Tryz.func370 mixed 9999 400 ?_;simp;refine CI.p (zja p hp) Tryz.call48 9999 ?_;simp;have hs:=zht p;have hb:=zjd (saneP_iff.1 (zc7 p)).1;have hq0:=zc7 p;unfold pinP;generalize za3 p=q at*;refine CI.p (zuc q (by omega)) Tryz.call85 9999 ?_;simp;obtain⟨nx,l⟩:=q;simp only at*;rcases zr8 l with e|⟨i,s,e⟩
 ·subst e;simp;first|exact fin0 (by simp[pinQ]) rfl|exact zaa (by simp[pinQ])
 ·subst e;have hs2:=(hb s (by simp)).2.1;have hs0:=zjc (saneP_iff.1 hq0).1 s (by simp);have hsl:i.length+1≤1000:=by simpa using hs
  have e1:(((i++[s]).length:Int)-1)=i.length:=by simp
  have e2:¬(i.length:Int)<0:=by omega
  by_cases h1:s.pins=10000
  ·simp[e1,e2,h1];first|exact fin0 (by simp[pinQ,h1]) rfl|exact zaa (by simp[pinQ,h1])
  ·simp[e1,e2,h1];have w1:IntKind.wrap .i64 (s.pins+1)=s.pins+1:=zab (by omega) (by omega);refine CI.cc [] (zqr (i++[s]) (by simp) (by simp;omega)) Tryz.call301 9999 ?_;simp;have hlt:(i.length:Int)<i.length+1:=by omega
   simp[hlt,qb8,qlg,w1];refine⟨by decide+kernel,?_⟩;first|exact fin0 (by simp[pinQ,h1]) rfl|exact zaa (by simp[pinQ,h1])
attribute [simp] Tryz.ntmps372 Tryz.results372
theorem qs3 (p:Pins)(id:Int)(hp:OkPins p):Ct Tryz.prog 372 [st (ziw p),int id] [] [] (.tup [lst (((getP p id).getD []).map resC),bool (getP p id).isSome]) []:=by
 refine Ct.B Tryz.func372 mixed 9999 400 ?_;simp;refine CI.p (zja p hp) Tryz.call48 9999 ?_;simp;have hs:=zht p;unfold getP getQ;generalize za3 p=q at*;refine CI.p (qhh q id (by omega)) Tryz.call393 9999 ?_;simp;have hr:=zkg q.snaps id q.snaps.length;change-1≤zcb q id∧zcb q id<q.snaps.length at hr;by_cases h1:zcb q id<0
 ·simp[h1];first|exact fin0 (by simp[h1]) rfl|exact zaa (by simp[h1])
 ·obtain⟨k,hk⟩:∃k:Nat,zcb q id=k:=⟨(zcb q id).toNat,by omega⟩;rw[hk]at h1 hr⊢;have hkl:k<q.snaps.length:=by omega
  simp[hk,h1,hkl];first|exact fin0 (by simp[h1,hkl]) rfl|exact zaa (by simp[h1,hkl])
theorem delS (l:List (List D))(k:Nat)(hk:k<l.length):Ct Tryz.prog 397 [.own 0,int k,int ((k:Int)+1)] [] [(0,.grow 3 l 78)] (lst (l.eraseIdx k)) []:=
 Ct.deleteT zz8 (by kernel_rfl) ti78 rfl rfl rfl (by decide) hk
attribute [simp] Tryz.ntmps85 Tryz.results85
theorem qsj (nx:Int)(l:List (List D))(hl:l.length≤1000000):Ct Tryz.prog 85 [.agg [int nx,.own 0]] [(0,.grow 3 l 78)] [] (int ((l.length:Int)-1)) []:=by
 refine Ct.B Tryz.func85 mixed 9999 400 ?_;simp;have w:IntKind.wrap .i64 ((l.length:Int)-1)=(l.length:Int)-1:=zab (by omega) (by omega);simp[w];first| (refine⟨[],?_,?_,?_,?_,?_,?_,?_⟩<;>simp[nmF,inB];done)| (refine⟨by decide+kernel,?_⟩;refine⟨[],?_,?_,?_,?_,?_,?_,?_⟩<;>simp[nmF,inB])
attribute [simp] Tryz.ntmps380 Tryz.results380
theorem qxy (p:Pins)(id:Int)(hp:OkPins p):Ct Tryz.prog 380 [st (ziw p),int id] [] [] (.tup [st (ziw (relP p id).1),int (relP p id).2]) []:=by
 refine Ct.B Tryz.func380 mixed 9999 400 ?_;simp;refine CI.p (zja p hp) Tryz.call48 9999 ?_;simp;have hs:=zht p;have hb:=zjd (saneP_iff.1 (zc7 p)).1;have hq0:=zc7 p;unfold relP;generalize za3 p=q at*;refine CI.p (qhh q id (by omega)) Tryz.call393 9999 ?_;simp;have hr:=zkg q.snaps id q.snaps.length;change-1≤zcb q id∧zcb q id<q.snaps.length at hr;by_cases h1:zcb q id<0
 ·simp[h1];first|exact fin0 (by simp[relQ,h1]) rfl|exact zaa (by simp[relQ,h1])
 ·obtain⟨k,hk⟩:∃k:Nat,zcb q id=k:=⟨(zcb q id).toNat,by omega⟩;rw[hk]at h1 hr;have hkl:k<q.snaps.length:=by omega
  have e2:q.snaps[k]? =some q.snaps[k]:=List.getElem?_eq_getElem hkl;have hm:q.snaps[k]∈q.snaps:=List.getElem_mem hkl;generalize hsn:q.snaps[k]=s at*;have hs2:=(hb s hm).2.1;have hs0:=zjc (saneP_iff.1 hq0).1 s hm;simp[hk,h1,hkl,hsn];refine CI.p (qi2 s) Tryz.call302 9999 ?_;simp;by_cases h2:s.pins=0
  ·simp[h2];first|exact fin0 (by simp[relQ,hk,h1,e2,h2]) rfl|exact zaa (by simp[relQ,hk,h1,e2,h2])
  ·simp[h2];have w1:IntKind.wrap .i64 (s.pins-1)=s.pins-1:=zab (by omega) (by omega);have hne:q.snaps≠[]:=by intro e;rw[e]at hkl;simp at hkl
   refine CI.cc [] (zqr q.snaps hne (by omega)) Tryz.call301 9999 ?_ (ha:=by simp[w1,hkl,hsn]) (hk:=by simp[w1,hkl,hsn]);simp[w1,hkl,hsn];have hll:((q.snaps.map zdd).set k [iD s.id,iD (s.pins-1),lD (s.l.map resC)]).length≤1000000:=by simp;omega
   refine CI.cc [1472] (qsj q.next ((q.snaps.map zdd).set k [iD s.id,iD (s.pins-1),lD (s.l.map resC)]) hll) Tryz.call85 9999 ?_;simp;by_cases h3:(k:Int)=q.snaps.length-1
   ·have hA:relQ q id=(⟨q.next,q.snaps.set k {s with pins:=s.pins-1}⟩,0):=by
     unfold relQ;rw[if_neg (by omega),hk,Int.toNat_natCast,e2];simp only[h2,if_false];rw[if_neg (by omega)]
    rw[hA];simp[h3];have h5:q.snaps.length-1=k:=by omega
    first|exact fin0 (by simp[h5]) rfl|exact zaa (by simp[h5])
   ·simp[h3,hkl];refine CI.p (qi2 {s with pins:=s.pins-1}) Tryz.call302 9999 ?_;simp;by_cases h4:s.pins-1=0
    ·have hA:relQ q id=(⟨q.next,q.snaps.eraseIdx k⟩,0):=by
      unfold relQ;rw[if_neg (by omega),hk,Int.toNat_natCast,e2];simp only[h2,if_false];rw[if_pos (by omega)]
     rw[hA];have w2:IntKind.wrap .i64 ((k:Int)+1)=(k:Int)+1:=zab (by omega) (by omega);simp[h4,w2];refine CI.cc [1472] (delS ((q.snaps.map zdd).set k [iD s.id,iD 0,lD (s.l.map resC)]) k (by simpa using hkl)) Tryz.call397 9999 ?_;simp;first|exact fin0 (by simp[ze6,List.eraseIdx_set_eq]) rfl|exact zaa (by simp[ze6,List.eraseIdx_set_eq])
    ·have hA:relQ q id=(⟨q.next,q.snaps.set k {s with pins:=s.pins-1}⟩,0):=by
      unfold relQ;rw[if_neg (by omega),hk,Int.toNat_natCast,e2];simp only[h2,if_false];rw[if_neg (by omega)]
     rw[hA];simp[h4];first|exact fin0 (by simp) rfl|exact zaa (by simp)
end Go.Proofs.YtjoaclgkjhncjaaGreatDoor
namespace Go.Proofs.YtjoaclgkjhncjaaGreatDoor
open Go.AI Go.G
set_option maxRecDepth 20000
attribute [simp] Tryz.ntmps323 Tryz.results323
theorem qto (s:Side)(h:OkX s):Ct Tryz.prog 323 [st (zc1 s)] [] [] (.tup [st (zc1 (ze9 s).1),int (ze9 s).2.1,int (ze9 s).2.2]) []:=by
 refine Ct.B Tryz.func323 mixed 9999 400 ?_;simp;refine CI.p (zk1 s h) Tryz.call40 9999 ?_;simp;unfold ze9;have ho:=h.sound;generalize soundX s=q at ho⊢;refine CI.p (qx3 q.p ho.pins) Tryz.call370 9999 ?_;simp;first|exact fin0 (by simp) rfl|exact zaa (by simp)
attribute [simp] Tryz.ntmps330 Tryz.results330
theorem qyk (s:Side)(id:Int)(h:OkX s):Ct Tryz.prog 330 [st (zc1 s),int id] [] [] (.tup [st (zc1 (endX s id).1),lst ((endX s id).2.1.map zam),int (endX s id).2.2]) []:=by
 refine Ct.B Tryz.func330 mixed 9999 400 ?_;simp;refine CI.p (zk1 s h) Tryz.call40 9999 ?_;simp;unfold endX;have ho:=h.sound;have ht:=zyr (zfy s);generalize soundX s=q at ho ht⊢;refine CI.p (qxy q.p id ho.pins) Tryz.call380 9999 ?_;simp;have o2:=qhs id ho.pins;unfold endQ;dsimp only;generalize relP q.p id=R at o2⊢;refine CI.p (zxk R.1 o2) Tryz.call21 9999 ?_;simp;refine CI.p (zxk q.p ho.pins) Tryz.call21 9999 ?_;simp;refine CI.p (qjo (zcw R.1) (zcw q.p) (by have:=zow o2;omega)) Tryz.call364 9999 ?_;simp;refine⟨by decide+kernel,?_⟩;refine sGI (fun h1=>?_) (fun h1=>?_)<;>simp only[h1]<;>simp
 ·have h1':zcw R.1=zcw q.p:=by simpa using h1
  first|exact fin0 (by simp[h1']) rfl|exact zaa (by simp[h1'])
 have h1':¬zcw R.1=zcw q.p:=by simpa using h1
 refine sGI (fun h2=>?_) (fun h2=>?_)<;>simp only[h2]<;>simp
 ·have h2':q.up=false:=by simpa using h2
  first|exact fin0 (by simp[h1',h2']) rfl|exact zaa (by simp[h1',h2'])
 have h2':q.up=true:=by simpa using h2
 refine CI.p (zxq {q with p:=R.1}) Tryz.call182 9999 ?_;simp;refine sBI (fun h3=>?_) (fun h3=>?_)<;>simp only[h3]<;>simp<;>(try simp only[nT,nF,dT,dF]at h3)
 ·first|exact fin0 (by simp[h1',h2',h3]) rfl|exact zaa (by simp[h1',h2',h3])
 ·refine CI.p (zjf {q with p:=R.1} ⟨3,q.epoch,0,0,0,[],[],0,[],[]⟩ (ho.withP o2) ht.2 ht.1) Tryz.call239 9999 ?_;simp;refine⟨by decide+kernel,?_⟩;first|exact fin0 (by simp[h1',h2',h3,zhs]) rfl|exact zaa (by simp[h1',h2',h3,zhs])
end Go.Proofs.YtjoaclgkjhncjaaGreatDoor
namespace Go.Proofs.YtjoaclgkjhncjaaGreatDoor
open Go.AI Go.G
set_option maxRecDepth 20000
attribute [simp] Tryz.ntmps371 Tryz.results371
theorem qin (r:Res)(n:Int):Ct Tryz.prog 371 [st (resC r),.d (.pro [iD n])] [] [] (bool (decide (r.kind=0)&&decide (r.port=n))) []:=by
 refine Ct.B Tryz.func371 mixed 9999 400 ?_;simp
 repeat' first
  | (refine sGI (fun h=>?_) (fun h=>?_)<;>simp only[h]<;>simp[h])
  | (refine sBI (fun h=>?_) (fun h=>?_)<;>simp only[h]<;>simp[h])
  | (refine⟨(show zba _ _ from by decide+kernel),?_⟩)
  |fail
 all_goals exact fin0 (by simp[*]) rfl
attribute [simp] Tryz.ntmps324 Tryz.results324
theorem qms (l:List Res)(n:Int)(hl:l.length≤9223372036854775807):Ct Tryz.prog 324 [lst (l.map resC),int n] [] [] (.tup [st (resC ((zmy l n).getD zRes)),bool (zmy l n).isSome]) []:=by
 refine Ct.B Tryz.func324 mixed 1 400 ?_;simp;refine CI.s (tm:=[(0,lst (l.map resC)),(3,.d (.pro [iD n])),(4,.ptr 128 0),(5,bool false)]) (mm:=[(128,.cells [int 0,str ⟨#[]⟩,int 0,int 0,str ⟨#[]⟩,lst [],lst []] 67)]) (nx:=129) [] [64] (by constructor<;>simp) ?_;refine CI.run 9999 400 rfl ?_;simp;refine CI.p (zuf l (.fn (.func 371) [] [.pro [iD n]]) (fun r=>decide (r.kind=0)&&decide (r.port=n)) (fun r hr=>FnOk.clo (qin r n) Tryz.call371 rfl rfl) hl) Tryz.call41 9999 ?_;simp;rcases zjm (fun r:Res=>decide (r.kind=0)&&decide (r.port=n)) l with⟨h1,h2⟩|⟨i,x,h1,h2,h3,h4⟩
 ·have e:zmy l n=none:=h2;simp[h1];first|exact fin0 (by simp[e,zRes]) rfl|exact zaa (by simp[e,zRes])
 ·have e:zmy l n=some x:=h4;have hx:l[i]=x:=by rw[List.getElem?_eq_getElem h2]at h3;exact Option.some.inj h3
  have h0:¬(i:Int)<0:=by omega
  simp[h1,h0,h2,h3,hx];first|exact fin0 (by simp[e]) rfl|exact zaa (by simp[e])
attribute [simp] Tryz.ntmps193 Tryz.results193
theorem qoz (a:G.Ask):Ct Tryz.prog 193 [st (askC a)] [] [] (st (reqC (newR a))) []:=by
 refine Ct.B Tryz.func193 mixed 9999 400 ?_;simp;first|exact fin0 (by simp[newR,zAns]) rfl|exact zaa (by simp[newR,zAns])
attribute [simp] Tryz.ntmps322 Tryz.results322
theorem qgp (r:Req):Ct Tryz.prog 322 [st (reqC r)] [] [] (bool (zit r)) []:=by
 refine Ct.B Tryz.func322 mixed 9999 400 ?_;simp
 repeat' first
  | (refine sGI (fun h=>?_) (fun h=>?_)<;>simp only[h]<;>simp[h])
  | (refine sBI (fun h=>?_) (fun h=>?_)<;>simp only[h]<;>simp[h])
  | (refine⟨(show zba _ _ from by decide+kernel),?_⟩)
  |fail
 all_goals exact fin0 (by simp[*,zit]) rfl
attribute [simp] Tryz.ntmps253 Tryz.results253
theorem qav (r:Req):Ct Tryz.prog 253 [st (reqC r)] [] [] (st (reqC (zec r))) []:=by
 refine Ct.B Tryz.func253 mixed 9999 400 ?_;simp;refine CI.p (qgp r) Tryz.call322 9999 ?_;simp;refine sBI (fun h1=>?_) (fun h1=>?_)<;>simp only[h1]<;>simp<;>(try simp only[nT,nF,dT,dF]at h1)
 ·refine CI.p (qoz r.a) Tryz.call193 9999 ?_;simp;first|exact fin0 (by simp[zec,h1]) rfl|exact zaa (by simp[zec,h1])
 ·first|exact fin0 (by simp[zec,h1]) rfl|exact zaa (by simp[zec,h1])
attribute [simp] Tryz.ntmps195 Tryz.results195
theorem qgw (r:Req):Ct Tryz.prog 195 [st (reqC r)] [] [] (bool (zjt r)) []:=by
 refine Ct.B Tryz.func195 mixed 9999 400 ?_;simp;refine CI.p (qav r) Tryz.call253 9999 ?_;simp;first|exact fin0 (by simp[zjt]) rfl|exact zaa (by simp[zjt])
attribute [simp] Tryz.ntmps254 Tryz.results254
theorem qph (s:Side)(h:OkX s):Ct Tryz.prog 254 [st (zc1 s)] [] [] (st (zc1 (soundX s))) []:=by
 refine Ct.B Tryz.func254 mixed 9999 400 ?_;simp;refine CI.p (qgn s h) Tryz.call86 9999 ?_;simp;refine sBI (fun h1=>?_) (fun h1=>?_)<;>simp only[h1]<;>simp<;>(try simp only[nT,nF,dT,dF]at h1)
 ·refine CI.p (zhf s.w.c.cap s.inn.m) Tryz.call33 9999 ?_;simp;first|exact fin0 (by simp[soundX,h1]) rfl|exact zaa (by simp[soundX,h1])
 ·first|exact fin0 (by simp[soundX,h1]) rfl|exact zaa (by simp[soundX,h1])
abbrev zn3 (w:Work):List (Nat×Blk):=[(0,.cells ((qub w).map .d) 343)]
attribute [simp] Tryz.ntmps259 Tryz.results259
theorem zl3 (w:Work)(a:Ans)(h:OkX w.s):Ct Tryz.prog 259 [.ptr 0 0,st (ansC a)] [] (zn3 w) (.tup []) (zn3 (zfh w a)):=by
 refine Ct.B Tryz.func259 mixed 9999 400 ?_;simp;by_cases h1:w.r.stage=0
 ·simp[h1];refine⟨by decide+kernel,?_⟩;first| (refine⟨[],?_,?_,?_,?_,?_,?_,?_⟩<;>simp[nmF,inB,zfh,h1];done)| (refine⟨by decide+kernel,?_⟩;refine⟨[],?_,?_,?_,?_,?_,?_,?_⟩<;>simp[nmF,inB,zfh,h1])
 ·simp[h1];refine CI.p (qyk w.s w.r.id h) Tryz.call330 9999 ?_;simp;refine⟨by decide+kernel,?_⟩;first| (refine⟨[],?_,?_,?_,?_,?_,?_,?_⟩<;>simp[nmF,inB,zfh,h1];done)| (refine⟨by decide+kernel,?_⟩;refine⟨[],?_,?_,?_,?_,?_,?_,?_⟩<;>simp[nmF,inB,zfh,h1])
attribute [simp] Tryz.ntmps325 Tryz.results325
theorem qol (w:Work)(h:OkX w.s):Ct Tryz.prog 325 [.ptr 0 0] (zn3 w) [] (lst ((zq1 w).map resC)) []:=by
 refine Ct.B Tryz.func325 mixed 9999 400 ?_;simp;refine CI.p (qs3 w.s.p w.r.id h.pins) Tryz.call372 9999 ?_;simp;refine⟨by decide+kernel,?_⟩;first| (refine⟨[],?_,?_,?_,?_,?_,?_,?_⟩<;>simp[nmF,inB,zq1];done)| (refine⟨by decide+kernel,?_⟩;refine⟨[],?_,?_,?_,?_,?_,?_,?_⟩<;>simp[nmF,inB,zq1])
attribute [simp] Tryz.ntmps326 Tryz.results326
theorem qs2 (w:Work)(k_:Int)(n:Str)(h:OkX w.s):Ct Tryz.prog 326 [.ptr 0 0,int k_,str n] (zn3 w) [] (.tup [st (resC ((getW w k_ n).getD zRes)),bool (getW w k_ n).isSome]) []:=by
 refine Ct.B Tryz.func326 mixed 9999 400 ?_;simp;have hl:=qca h.pins w.r.id;refine CI.cc [0] (qol w h) Tryz.call325 9999 ?_;simp;refine CI.p (qee (zq1 w) ⟨k_,n⟩ (by unfold zq1;omega)) Tryz.call15 9999 ?_;simp;first| (refine⟨[],?_,?_,?_,?_,?_,?_,?_⟩<;>simp[nmF,inB,getW];done)| (refine⟨by decide+kernel,?_⟩;refine⟨[],?_,?_,?_,?_,?_,?_,?_⟩<;>simp[nmF,inB,getW])
attribute [simp] Tryz.ntmps255 Tryz.results255
theorem qtp (w:Work)(h:OkX w.s):Ct Tryz.prog 255 [.ptr 0 0] [] (zn3 w) (.tup []) (zn3 (zid w)):=by
 refine Ct.B Tryz.func255 mixed 9999 400 ?_;simp;refine CI.p (qto w.s h) Tryz.call323 9999 ?_;simp;refine sBI (fun h1=>?_) (fun h1=>?_)<;>simp only[h1]<;>simp<;>(try simp only[nT,nF,dT,dF]at h1)
 ·refine CI.cc [0] (zl3 w ⟨0,⟨#[]⟩,0⟩ h) Tryz.call259 9999 ?_;simp;first| (refine⟨[],?_,?_,?_,?_,?_,?_,?_⟩<;>simp[nmF,inB,zid,h1];done)| (refine⟨by decide+kernel,?_⟩;refine⟨[],?_,?_,?_,?_,?_,?_,?_⟩<;>simp[nmF,inB,zid,h1])
 ·first| (refine⟨[],?_,?_,?_,?_,?_,?_,?_⟩<;>simp[nmF,inB,zid,h1];done)| (refine⟨by decide+kernel,?_⟩;refine⟨[],?_,?_,?_,?_,?_,?_,?_⟩<;>simp[nmF,inB,zid,h1])
attribute [simp] Tryz.ntmps256 Tryz.results256
theorem qmr (w:Work)(h:OkX w.s):Ct Tryz.prog 256 [.ptr 0 0] [] (zn3 w) (.tup []) (zn3 (zfe w)):=by
 refine Ct.B Tryz.func256 mixed 9999 400 ?_;simp;refine CI.cc [0] (qol w h) Tryz.call325 9999 ?_;simp;have hl:=qca h.pins w.r.id;refine CI.p (qms (zq1 w) w.r.a.port (by unfold zq1;omega)) Tryz.call324 9999 ?_;simp;refine⟨by decide+kernel,?_⟩;cases e:zmy (zq1 w) w.r.a.port with
 |none=>
  simp[e];refine CI.cc [0] (zl3 w ⟨1,⟨#[]⟩,0⟩ h) Tryz.call259 9999 ?_;simp;first| (refine⟨[],?_,?_,?_,?_,?_,?_,?_⟩<;>simp[nmF,inB,zfe,e];done)| (refine⟨by decide+kernel,?_⟩;refine⟨[],?_,?_,?_,?_,?_,?_,?_⟩<;>simp[nmF,inB,zfe,e])
 |some x=>
  simp[e];first| (refine⟨[],?_,?_,?_,?_,?_,?_,?_⟩<;>simp[nmF,inB,zfe,e];done)| (refine⟨by decide+kernel,?_⟩;refine⟨[],?_,?_,?_,?_,?_,?_,?_⟩<;>simp[nmF,inB,zfe,e])
attribute [simp] Tryz.ntmps257 Tryz.results257
theorem qq6 (w:Work)(h:OkX w.s)(hs:SnP w.s.p)(ha:(bs w.r.a.host).length≤1000000)(hp:(bs w.r.a.path).length≤1000000):Ct Tryz.prog 257 [.ptr 0 0] [] (zn3 w) (.tup []) (zn3 (zk4 w)):=by
 refine Ct.B Tryz.func257 mixed 9999 400 ?_;simp;refine CI.cc [0] (qs2 w 1 w.r.route h) Tryz.call326 9999 ?_;simp;have hf:FitR ((getW w 1 w.r.route).getD zRes):=qb9 (hs.get w.r.id) _;unfold zk4;dsimp only;generalize getW w 1 w.r.route=x at hf⊢;refine CI.p (qrc (x.getD zRes).rules w.r.a.host w.r.a.path ha hp hf.each hf.rules) Tryz.call327 9999 ?_;simp;refine⟨by decide+kernel,?_⟩;have hc:=qgz hf w.r.a.host w.r.a.path;generalize zq6 (x.getD zRes).rules w.r.a.host w.r.a.path=u at hc⊢;cases x with
 |none=>
  simp;refine CI.cc [0] (zl3 w ⟨2,⟨#[]⟩,0⟩ h) Tryz.call259 9999 ?_;simp;first| (refine⟨[],?_,?_,?_,?_,?_,?_,?_⟩<;>simp[nmF,inB];done)| (refine⟨by decide+kernel,?_⟩;refine⟨[],?_,?_,?_,?_,?_,?_,?_⟩<;>simp[nmF,inB])
 |some x=>
  simp;cases hu:u.2 with
  |false=>
   simp[hu];refine CI.cc [0] (zl3 w ⟨2,⟨#[]⟩,0⟩ h) Tryz.call259 9999 ?_;simp;first| (refine⟨[],?_,?_,?_,?_,?_,?_,?_⟩<;>simp[nmF,inB,hu];done)| (refine⟨by decide+kernel,?_⟩;refine⟨[],?_,?_,?_,?_,?_,?_,?_⟩<;>simp[nmF,inB,hu])
  |true=>
   simp[hu];refine CI.p (qnv u.1.split w.r.a.first hc) Tryz.call328 9999 ?_;simp;refine⟨by decide+kernel,?_⟩;refine sBI (fun h3=>?_) (fun h3=>?_)<;>simp only[h3]<;>simp<;>(try simp only[nT,nF,dT,dF]at h3)
   ·refine CI.cc [0] (zl3 w ⟨0,⟨#[]⟩,0⟩ h) Tryz.call259 9999 ?_;simp;first| (refine⟨[],?_,?_,?_,?_,?_,?_,?_⟩<;>simp[nmF,inB,hu,h3];done)| (refine⟨by decide+kernel,?_⟩;refine⟨[],?_,?_,?_,?_,?_,?_,?_⟩<;>simp[nmF,inB,hu,h3])
   ·first| (refine⟨[],?_,?_,?_,?_,?_,?_,?_⟩<;>simp[nmF,inB,hu,h3];done)| (refine⟨by decide+kernel,?_⟩;refine⟨[],?_,?_,?_,?_,?_,?_,?_⟩<;>simp[nmF,inB,hu,h3])
attribute [simp] Tryz.ntmps258 Tryz.results258
theorem qnu (w:Work)(h:OkX w.s)(hs:SnP w.s.p):Ct Tryz.prog 258 [.ptr 0 0] [] (zn3 w) (.tup []) (zn3 (zh6 w)):=by
 refine Ct.B Tryz.func258 mixed 9999 400 ?_;simp;refine CI.cc [0] (qs2 w 2 w.r.cluster h) Tryz.call326 9999 ?_;simp;unfold zh6;dsimp only;generalize getW w 2 w.r.cluster=c;refine CI.cc [0] (qs2 w 3 (c.getD zRes).to h) Tryz.call326 9999 ?_;simp;have hf:FitR ((getW w 3 (c.getD zRes).to).getD zRes):=qb9 (hs.get w.r.id) _;generalize getW w 3 (c.getD zRes).to=e at hf⊢;refine CI.p (qrl (e.getD zRes).hosts w.r.a.other hf.hosts) Tryz.call329 9999 ?_;simp;refine⟨by decide+kernel,?_⟩;generalize znu (e.getD zRes).hosts w.r.a.other=u;cases c with
 |none=>
  simp;refine CI.cc [0] (zl3 w ⟨0,⟨#[]⟩,0⟩ h) Tryz.call259 9999 ?_;simp;first| (refine⟨[],?_,?_,?_,?_,?_,?_,?_⟩<;>simp[nmF,inB];done)| (refine⟨by decide+kernel,?_⟩;refine⟨[],?_,?_,?_,?_,?_,?_,?_⟩<;>simp[nmF,inB])
 |some c=>
  simp;cases e with
  |none=>
   simp;refine CI.cc [0] (zl3 w ⟨0,⟨#[]⟩,0⟩ h) Tryz.call259 9999 ?_;simp;first| (refine⟨[],?_,?_,?_,?_,?_,?_,?_⟩<;>simp[nmF,inB];done)| (refine⟨by decide+kernel,?_⟩;refine⟨[],?_,?_,?_,?_,?_,?_,?_⟩<;>simp[nmF,inB])
  |some e=>
   simp;cases h3:u.2 with
   |false=>
    simp[h3];refine CI.cc [0] (zl3 w ⟨0,⟨#[]⟩,0⟩ h) Tryz.call259 9999 ?_;simp;first| (refine⟨[],?_,?_,?_,?_,?_,?_,?_⟩<;>simp[nmF,inB,h3];done)| (refine⟨by decide+kernel,?_⟩;refine⟨[],?_,?_,?_,?_,?_,?_,?_⟩<;>simp[nmF,inB,h3])
   |true=>
    simp[h3];first| (refine⟨[],?_,?_,?_,?_,?_,?_,?_⟩<;>simp[nmF,inB,h3];done)| (refine⟨by decide+kernel,?_⟩;refine⟨[],?_,?_,?_,?_,?_,?_,?_⟩<;>simp[nmF,inB,h3])
attribute [simp] Tryz.ntmps194 Tryz.results194
theorem qqd (r:Req)(s:Side)(h:OkX s)(hs:SnP s.p)(ha:(bs r.a.host).length≤1000000)(hp:(bs r.a.path).length≤1000000):Ct Tryz.prog 194 [st (reqC r),st (zc1 s)] [] [] (.tup [st (reqC (zeb r s).r),st (zc1 (zeb r s).s),lst ((zeb r s).told.map zam)]) []:=by
 refine Ct.B Tryz.func194 mixed 2 400 ?_;simp;refine CI.p (qav r) Tryz.call253 2 ?_;simp;refine CI.p (qph s h) Tryz.call254 2 ?_;simp;refine⟨by decide+kernel,?_⟩;unfold zeb stepQ;have ho:=h.sound;have hso:SnP (soundX s).p:=hs.soundX;have hq:=qaw r;generalize soundX s=x at ho hso⊢;generalize zec r=q at hq⊢;refine CI.s (tm:=[(7,.ptr 704 0),(4,.ptr 192 0),(5,.ptr 256 0),(6,lst [])]) (mm:=[(704,.cells ((qub ⟨q,x,[]⟩).map .d) 343),(192,.cells ((reqC ⟨⟨0,⟨#[]⟩,⟨#[]⟩,0,0⟩,0,0,⟨#[]⟩,⟨#[]⟩,zAns⟩).map .d) 218),(256,.cells ((zc1 ⟨0,0,false,⟨0,0,0,0,0⟩,⟨0,0,0,0⟩,⟨⟨0,[]⟩,false,[]⟩,⟨0,[]⟩⟩).map .d) 60)]) (nx:=768) [] [] (by constructor<;>simp[zAns]) ?_;refine CI.run 9999 400 rfl ?_;simp;refine sBI (fun h1=>?_) (fun h1=>?_)<;>simp only[h1]<;>simp<;>(try simp only[nT,nF,dT,dF]at h1)
 ·refine CI.cc [704] (qtp ⟨q,x,[]⟩ ho) Tryz.call255 9999 ?_;simp;refine⟨by decide+kernel,?_⟩;first|exact fin0 (by simp[h1]) rfl|exact zaa (by simp[h1])
 refine sBI (fun h2=>?_) (fun h2=>?_)<;>simp only[h2]<;>simp<;>(try simp only[nT,nF,dT,dF]at h2)
 ·refine CI.cc [704] (qmr ⟨q,x,[]⟩ ho) Tryz.call256 9999 ?_;simp;refine⟨by decide+kernel,?_⟩;first|exact fin0 (by simp[h1,h2]) rfl|exact zaa (by simp[h1,h2])
 refine sBI (fun h3=>?_) (fun h3=>?_)<;>simp only[h3]<;>simp<;>(try simp only[nT,nF,dT,dF]at h3)
 ·refine CI.cc [704] (qq6 ⟨q,x,[]⟩ ho hso (by rw[hq];exact ha) (by rw[hq];exact hp)) Tryz.call257 9999 ?_;simp;refine⟨by decide+kernel,?_⟩;first|exact fin0 (by simp[h1,h2,h3]) rfl|exact zaa (by simp[h1,h2,h3])
 refine sBI (fun h4=>?_) (fun h4=>?_)<;>simp only[h4]<;>simp<;>(try simp only[nT,nF,dT,dF]at h4)
 ·refine CI.cc [704] (qnu ⟨q,x,[]⟩ ho hso) Tryz.call258 9999 ?_;simp;refine⟨by decide+kernel,?_⟩;first|exact fin0 (by simp[h1,h2,h3,h4]) rfl|exact zaa (by simp[h1,h2,h3,h4])
 refine sBI (fun h5=>?_) (fun h5=>?_)<;>simp only[h5]<;>simp<;>(try simp only[nT,nF,dT,dF]at h5)
 ·refine CI.cc [704] (zl3 ⟨q,x,[]⟩ q.out ho) Tryz.call259 9999 ?_;simp;refine⟨by decide+kernel,?_⟩;first|exact fin0 (by simp[h1,h2,h3,h4,h5]) rfl|exact zaa (by simp[h1,h2,h3,h4,h5])
 ·refine⟨by decide+kernel,?_⟩;first|exact fin0 (by simp[h1,h2,h3,h4,h5]) rfl|exact zaa (by simp[h1,h2,h3,h4,h5])
end Go.Proofs.YtjoaclgkjhncjaaGreatDoor
namespace Go.Proofs.YtjoaclgkjhncjaaGreatDoor
open Go.AI Go.G
set_option maxRecDepth 20000
attribute [simp] Tryz.ntmps317 Tryz.results317
theorem zr2 (l:List G.Task)(S:List Int)(n:Int)(ht1:∀t∈l,1≤t.n∧t.n≤n)(hd1:(S++l.map Task.n).Nodup)(hl:l.length≤1000000):Ct Tryz.prog 317 [lst (l.map zef),.own 0,int n] [] [(0,.map false [.int] false (zlp S))] (bool true) [(0,.map false [.int] false (zlp (S++l.map Task.n)))]:=by
 refine Ct.B Tryz.func317 mixed 9999 400 ?_;simp;refine LoopI.U mixed (l) (fun k=>[(1,.own 0),(2,int n),(9,lst (l.map zef)),(10,int l.length),(11,int k.1)]) (fun k=>[(0,.map false [.int] false (zlp (S++(l.take k.1).map Task.n)))]) 64 [] (by constructor<;>simp) ?_;rintro⟨k,hk1⟩ B hB;refine CI.run 9999 400 rfl ?_;simp;refine sBI (fun h=>?_) (fun h=>?_)
 ·have hk:k<(l).length:=by simpa using h
  obtain⟨x,hx,hr,hm,ht,hd⟩:=inL hk;have hw:=wr (k:=k) (by omega);simp only[h];simp[hr,hw];have hb:=ht1 x hm;have hL:x.n∉S++(l.take k).map Task.n:=qna hd1 hr;have c1:¬x.n<1:=by omega
  have c2:¬n<x.n:=by omega
  have c3:zlp (S++List.take k (List.map Task.n l)) [.int .i64 x.n]=none:=by rw[zlo,←List.map_take,if_neg hL]
  simp[c1,c2,c3];refine hB _ ⟨k+1,by omega⟩ [] ?_ (by simp;omega);constructor<;>simp[hw,ht]
 ·have hkl:k=(l).length:=by simp at h;omega
  subst hkl;simp only[h];simp[List.take_length,List.drop_length];first| (refine⟨[],?_,?_,?_,?_,?_,?_,?_⟩<;>simp[nmF,inB];done)| (refine⟨by decide+kernel,?_⟩;refine⟨[],?_,?_,?_,?_,?_,?_,?_⟩<;>simp[nmF,inB])
attribute [simp] Tryz.ntmps316 Tryz.results316
theorem qw7 (a b:G.Task)(ha:1≤a.n∧a.n≤100000)(hb:1≤b.n∧b.n≤100000):Ct Tryz.prog 316 [st (zef a),st (zef b)] [] [] (int (a.n-b.n)) []:=by
 refine Ct.B Tryz.func316 mixed 9999 400 ?_;simp;have w1:IntKind.wrap .i64 (a.n-b.n)=a.n-b.n:=zab (by omega) (by omega);simp[w1];first|exact fin0 (by simp) rfl|exact zaa (by simp)
attribute [simp] Tryz.ntmps315 Tryz.results315
theorem qk7 (l:List G.Task)(hl:l.length≤1000000)(hs:l.Pairwise fun a b=>a.n<b.n)(h:∀t∈l,1≤t.n∧t.n≤100000):Ct Tryz.prog 315 [lst (l.map zef),.d (fnD 316)] [] [] (bool true) []:=by
 refine Ct.B Tryz.func315 mixed 9999 400 ?_;simp;have w0:IntKind.wrap .i64 ((l.length:Int)-1)=(l.length:Int)-1:=zab (by omega) (by omega);refine LoopI.inv mixed rfl (ι:={k:Nat//k≤l.length}) (fun k=>[(0,lst (l.map zef)),(1,.d (fnD 316)),(5,int ((k.1:Int)-1))]) (fun k=>[]) 64 (fun k=>k.1) ⟨l.length,Nat.le_refl _⟩ [] (by constructor<;>simp[w0]) ?_;rintro⟨k,hk⟩ B hB;refine CI.run 9999 400 rfl ?_;simp;refine sBI (fun h1=>?_) (fun h1=>?_)<;>simp only[h1]<;>simp<;>(try simp only[nT,nF,dT,dF]at h1)
 ·obtain⟨j,rfl⟩:∃j,k=j+2:=⟨k-2,by omega⟩;have hk1:j+1<l.length:=by omega
  have hk2:j<l.length:=by omega
  have hp:=List.pairwise_iff_getElem.1 hs j (j+1) hk2 hk1 (by omega);have hx:=h _ (List.getElem_mem hk1);have hy:=h _ (List.getElem_mem hk2);have hr1:l[j+1]? =some l[j+1]:=List.getElem?_eq_getElem hk1;have hr2:l[j]? =some l[j]:=List.getElem?_eq_getElem hk2;generalize hgx:l[j+1]=x at hp hx hr1;generalize hgy:l[j]=y at hp hy hr2;have e1:(j:Int)+2-1=j+1:=by omega
  have e0:(1:Int)≤(j:Int)+2:=by omega
  have e2:(j:Int)+1<l.length:=by omega
  have w1:IntKind.wrap .i64 (j:Int)=j:=zab (by omega) (by omega);simp[e1,e0,e2,hr1,hr2,w1,hk1,hk2,hgx,hgy];refine CI.ff (FnOk.of (qw7 x y hx hy) Tryz.call316 rfl rfl) rfl rfl rfl 9999 ?_;simp;refine⟨by decide+kernel,?_⟩;have e3:¬x.n-y.n<0:=by omega
  simp[e3];refine hB _ ⟨j+1,by omega⟩ [] ?_ (by simp);constructor<;>simp[w1,e1]
 ·first|exact fin0 (by simp) rfl|exact zaa (by simp)
attribute [simp] Tryz.ntmps369 Tryz.results369
theorem qmy (l:List G.Task)(kf:D)(p:G.Task→Bool)(hf:∀x∈l,FnOk Tryz.prog (.d kf) [st (zef x)] (bool (p x)))(hl:l.length≤9223372036854775807):Ct Tryz.prog 369 [lst (l.map zef),.d kf] [] [] (int (idxF p l)) []:=by
 refine Ct.B Tryz.func369 mixed 9999 400 ?_;simp;refine LoopI.inv mixed rfl (ι:={k:Nat//k≤(l).length∧(l.take k).all (fun x=>!p x)=true}) (fun k=>[(0,lst (l.map zef)),(1,.d kf),(7,int l.length),(8,int k.1)]) (fun k=>[]) 64 (fun k=>(l).length-k.1) ⟨0,by omega,by simp⟩ [] (by constructor<;>simp) ?_;rintro⟨k,hk1,hi⟩ B hB;refine CI.run 9999 400 rfl ?_;simp;refine sBI (fun h=>?_) (fun h=>?_)
 ·have hk:k<(l).length:=by simpa using h
  obtain⟨r,hx,hr,hm,ht,hd⟩:=inL hk;have hw:=wr (k:=k) (by omega);simp only[h];simp[hr,hw];refine CI.ff (hf r hm) rfl rfl rfl 9999 ?_;simp;refine sBI (fun hp=>?_) (fun hp=>?_)<;>simp only[hp]<;>simp
  ·first|exact fin0 (by simp[zc2 hi hr hp]) rfl|exact zaa (by simp[zc2 hi hr hp])
  ·refine hB _ ⟨k+1,by omega,by simp[ht,hi,hp]⟩ [] ?_ (by simp;omega);constructor<;>simp[hw,ht,hp]
 ·have hkl:k=(l).length:=by simp at h;omega
  subst hkl;simp only[h];simp[List.take_length,List.drop_length];rw[List.take_length]at hi;first|exact fin0 (by simp[zbi (fun x hx=>by have:=List.all_eq_true.1 hi x hx;simpa using this)]) rfl|exact zaa (by simp[zbi (fun x hx=>by have:=List.all_eq_true.1 hi x hx;simpa using this)])
attribute [simp] Tryz.ntmps318 Tryz.results318
theorem qct (l:List G.Task)(kf:D)(p:G.Task→Bool)(hf:∀x∈l,FnOk Tryz.prog (.d kf) [st (zef x)] (bool (p x)))(hl:l.length≤9223372036854775807):Ct Tryz.prog 318 [lst (l.map zef),.d kf] [] [] (bool (l.any p)) []:=by
 refine Ct.B Tryz.func318 mixed 9999 400 ?_;simp;refine CI.p (qmy l kf p hf hl) Tryz.call369 9999 ?_;simp;rw[zgp];first|exact fin0 (by simp) rfl|exact zaa (by simp)
attribute [simp] Tryz.ntmps320 Tryz.results320
theorem qgx (t:G.Task):Ct Tryz.prog 320 [st (zef t)] [] [] (bool (zit t.r&&zjt t.r)) []:=by
 refine Ct.B Tryz.func320 mixed 9999 400 ?_;simp;refine CI.p (qgp t.r) Tryz.call322 9999 ?_;simp;refine sGI (fun h1=>?_) (fun h1=>?_)<;>simp only[h1]<;>simp
 ·refine CI.p (qgw t.r) Tryz.call195 9999 ?_;simp;first|exact fin0 (by simp[h1]) rfl|exact zaa (by simp[h1])
 ·first|exact fin0 (by simp[h1]) rfl|exact zaa (by simp[h1])
attribute [simp] Tryz.ntmps319 Tryz.results319
theorem qp9 (t:G.Task):Ct Tryz.prog 319 [st (zef t)] [] [] (bool (!(zit t.r&&zjt t.r))) []:=by
 refine Ct.B Tryz.func319 mixed 9999 400 ?_;simp;refine CI.p (qgx t) Tryz.call320 9999 ?_;simp;first|exact fin0 (by simp) rfl|exact zaa (by simp)
attribute [simp] Tryz.ntmps321 Tryz.results321
theorem qu1 (t:G.Task):Ct Tryz.prog 321 [st (zef t)] [] [] (bool (zjt t.r)) []:=by
 refine Ct.B Tryz.func321 mixed 9999 400 ?_;simp;refine CI.p (qgw t.r) Tryz.call195 9999 ?_;simp;first|exact fin0 (by simp) rfl|exact zaa (by simp)
attribute [simp] Tryz.ntmps252 Tryz.results252
theorem qdo (p:Pool)(h:OkPool p):Ct Tryz.prog 252 [st (zwe p)] [] [] (bool true) []:=by
 refine Ct.B Tryz.func252 mixed 9999 400 ?_;simp;have c0:=h.n0;have c1:=h.n1;have c2:=h.lt;have c3:=h.ld;have c4:¬p.next<0:=by omega
 have c5:¬100000<p.next:=by omega
 have c6:¬(64:Int)<p.tasks.length:=by omega
 have c7:¬(1000:Int)<p.done.length:=by omega
 simp[c4,c5,c6,c7];refine CI.p (qk7 p.tasks (by omega) h.up (fun t ht=>by have:=h.rt t ht;omega)) Tryz.call315 9999 ?_;simp;refine CI.cc [1472] (zr2 p.tasks [] p.next h.rt (by simpa using zty h.up) (by omega)) Tryz.call317 9999 ?_ (ha:=by simp[zi0]) (hk:=by simp[zi0]);simp[zi0];refine CI.cc [1472] (zr2 p.done (p.tasks.map Task.n) p.next h.rd (qh3 h) (by omega)) Tryz.call317 9999 ?_;simp;refine CI.p (qct p.tasks (fnD 319) (fun t=>!(zit t.r&&zjt t.r)) (fun t _=>FnOk.of (qp9 t) Tryz.call319 rfl rfl) (by omega)) Tryz.call318 9999 ?_;simp;have e1:p.tasks.any (fun t=>!zit t.r|| !zjt t.r)=false:=by
  rw[List.any_eq_false];intro t ht;have:=h.run t ht;simp[this.1,this.2]
 have e2:p.done.any (fun t=>zjt t.r)=false:=by
  rw[List.any_eq_false];intro t ht;have:=h.over t ht;simp[this]
 simp[e1];refine CI.p (qct p.done (fnD 321) (fun t=>zjt t.r) (fun t _=>FnOk.of (qu1 t) Tryz.call321 rfl rfl) (by omega)) Tryz.call318 9999 ?_;simp;first|exact fin0 (by simp[e2]) rfl|exact zaa (by simp[e2])
attribute [simp] Tryz.ntmps191 Tryz.results191
theorem zpi (p:Pool)(h:OkPool p):Ct Tryz.prog 191 [st (zwe p)] [] [] (st (zwe p)) []:=by
 refine Ct.B Tryz.func191 mixed 9999 400 ?_;simp;refine CI.p (qdo p h) Tryz.call252 9999 ?_;simp;first|exact fin0 (by simp) rfl|exact zaa (by simp)
attribute [simp] Tryz.ntmps192 Tryz.results192
theorem qes (x:G.Task)(l:List G.Task)(hl:l.length≤1000000):Ct Tryz.prog 192 [lst ((x::l).map zef)] [] [] (.own 64) [(64,.grow 13 ((x::l).map zef) 220)]:=by
 refine Ct.B Tryz.func192 mixed 9999 400 ?_;simp;refine⟨by omega,?_⟩;first| (refine⟨[(64,384)],?_,?_,?_,?_,?_,?_,?_⟩<;>simp[nmF,inB];done)| (refine⟨by decide+kernel,?_⟩;refine⟨[(64,384)],?_,?_,?_,?_,?_,?_,?_⟩<;>simp[nmF,inB])
theorem qab :Ct Tryz.prog 192 [lst []] [] [] (.own 64) [(64,.grow 13 [] 220)]:=by
 refine Ct.B Tryz.func192 mixed 2 400 ?_;simp;refine⟨?_,?_⟩
 ·refine CI.cutTo mixed (ι:=Unit) (fun _=>[(2,.d (.v (.slice none 0 0)))]) (fun _=>[]) 65 rfl (fun B hB=>?_) (fun _=>?_)
  ·refine CI.run 9999 400 rfl ?_;simp;refine hB _ () [] ?_;constructor<;>simp
  ·refine CI.nilOwn 2 13 220 rfl rfl ?_;refine CI.run 9999 400 rfl ?_;simp;first| (refine⟨[(64,65)],?_,?_,?_,?_,?_,?_,?_⟩<;>simp[nmF,inB];done)| (refine⟨by decide+kernel,?_⟩;refine⟨[(64,65)],?_,?_,?_,?_,?_,?_,?_⟩<;>simp[nmF,inB])
 ·skip
  first| (refine⟨[(64,384)],?_,?_,?_,?_,?_,?_,?_⟩<;>simp[nmF,inB];done)| (refine⟨by decide+kernel,?_⟩;refine⟨[(64,384)],?_,?_,?_,?_,?_,?_,?_⟩<;>simp[nmF,inB])
theorem zh5 (l:List G.Task)(hl:l.length≤1000000):Ct Tryz.prog 192 [lst (l.map zef)] [] [] (.own 64) [(64,.grow 13 (l.map zef) 220)]:=by
 cases l with
 |nil=>exact qab
 |cons x l=>exact qes x l (by simp at hl;omega)
theorem delT (l:List (List D))(k:Nat)(hk:k<l.length):Ct Tryz.prog 196 [.own 0,int k,int ((k:Int)+1)] [] [(0,.grow 13 l 220)] (lst (l.eraseIdx k)) []:=
 Ct.deleteT zz7 (by kernel_rfl) qp1 rfl rfl rfl (by decide) hk
attribute [simp] Tryz.ntmps125 Tryz.results125
theorem qqi (p:Pool)(a:G.Ask)(h:OkPool p):Ct Tryz.prog 125 [st (zwe p),st (askC a)] [] [] (.tup [st (zwe (zgj p a).1),int (zgj p a).2.1,int (zgj p a).2.2]) []:=by
 refine Ct.B Tryz.func125 mixed 9999 400 ?_;simp;refine CI.p (zpi p h) Tryz.call191 9999 ?_;simp;have c0:=h.n0;have c1:=h.n1;have c2:=h.lt;by_cases h1:64≤p.tasks.length
 ·have h1':(64:Int)≤p.tasks.length:=by omega
  simp[h1'];first|exact fin0 (by simp[zgj,h1]) rfl|exact zaa (by simp[zgj,h1])
 ·have h1':¬(64:Int)≤p.tasks.length:=by omega
  by_cases h2:p.next=100000
  ·simp[h1',h2];first|exact fin0 (by simp[zgj,h1,h2]) rfl|exact zaa (by simp[zgj,h1,h2])
  ·have w1:IntKind.wrap .i64 (p.next+1)=p.next+1:=zab (by omega) (by omega);simp[h1',h2,w1];refine CI.cc [] (zh5 p.tasks (by omega)) Tryz.call192 9999 ?_;simp;refine CI.p (qoz a) Tryz.call193 9999 ?_;simp;refine⟨by omega,?_⟩;refine⟨by decide+kernel,?_⟩;refine⟨by decide+kernel,?_⟩;first|exact fin0 (by simp[zgj,h1,h2,newR]) rfl|exact zaa (by simp[zgj,h1,h2,newR])
attribute [simp] Tryz.ntmps197 Tryz.results197
theorem qvg (l:List G.Task)(t:G.Task)(hl:l.length≤1000000):Ct Tryz.prog 197 [lst (l.map zef),st (zef t)] [] [] (lst ((ztt l t).map zef)) []:=by
 refine Ct.B Tryz.func197 mixed 9999 400 ?_;simp;have w1:IntKind.wrap .i64 ((l.length:Int)-1000)=(l.length:Int)-1000:=zab (by omega) (by omega);have w2:IntKind.wrap .i64 ((l.length:Int)-1000+1)=(l.length:Int)-1000+1:=zab (by omega) (by omega);by_cases h1:l.length≤999
 ·have h2:¬(0:Int)<(l.length:Int)-1000+1:=by omega
  have h3:l.length-999=0:=by omega
  simp[w1,w2,h2];refine CI.cc [] (zh5 l hl) Tryz.call192 9999 ?_;simp;refine⟨by omega,?_⟩;refine⟨by decide+kernel,?_⟩;first|exact fin0 (by simp[ztt,h3]) rfl|exact zaa (by simp[ztt,h3])
 ·obtain⟨m,h3⟩:∃m,l.length=m+999:=⟨l.length-999,by omega⟩;have h2:(0:Int)<(l.length:Int)-1000+1:=by omega
  have h4:(l.length:Int)-1000+1=(m:Int):=by omega
  have h5:0<m:=by omega
  have h6:(m:Int)≤l.length:=by omega
  have w3:IntKind.wrap .i64 (m:Int)=m:=zab (by omega) (by omega);have h7:l.length-999=m:=by omega
  have h8:l.drop m=l.drop (l.length-999):=by rw[h7]
  simp[w1,w3,h4,h5,h6];rw[←List.map_drop];refine CI.cc [] (zh5 (l.drop m) (by simp;omega)) Tryz.call192 9999 ?_;simp;refine⟨⟨zzq m (by simp),by omega⟩,?_⟩;refine⟨by decide+kernel,?_⟩;first|exact fin0 (by simp[ztt,h7]) rfl|exact zaa (by simp[ztt,h7])
attribute [simp] Tryz.ntmps126 Tryz.results126
theorem qve (p:Pool)(s:Side)(draw:Int)(h:OkPool p)(ho:OkX s)(hs:SnP s.p)(ha:∀t∈p.tasks,(bs t.r.a.host).length≤1000000∧(bs t.r.a.path).length≤1000000):Ct Tryz.prog 126 [st (zwe p),st (zc1 s),int draw] [] [] (.tup [st (zwe (zei p s draw).1),st (zc1 (zei p s draw).2.1),lst ((zei p s draw).2.2.1.map zam),int (zei p s draw).2.2.2]) []:=by
 refine Ct.B Tryz.func126 mixed 9999 400 ?_;simp;refine CI.p (zpi p h) Tryz.call191 9999 ?_;simp;have c2:=h.lt;have c3:=h.ld;by_cases h1:p.tasks=[]
 ·have e:zei p s draw=(⟨p.next,[],p.done⟩,s,[],10):=by
   obtain⟨n,T,D⟩:=p;simp only at h1;subst h1;rfl
  rw[e];simp[h1];refine⟨by decide+kernel,?_⟩;first|exact fin0 (by simp) rfl|exact zaa (by simp)
 ·have hl:0<p.tasks.length:=List.length_pos_iff.2 h1;obtain⟨e1,e2⟩:=qhn p draw hl;have hr:p.tasks[pickAt p draw]? =some p.tasks[pickAt p draw]:=List.getElem?_eq_getElem e2;have hm:p.tasks[pickAt p draw]∈p.tasks:=List.getElem_mem e2;unfold zei;generalize pickAt p draw=k at*;generalize hg:p.tasks[k]=t at*;rw[hr];dsimp only;simp[h1,e1,e2,hg];obtain⟨ha1,ha2⟩:=ha t hm;refine CI.p (qqd t.r s ho hs ha1 ha2) Tryz.call194 9999 ?_;simp;generalize zeb t.r s=w;refine CI.cc [] (zh5 p.tasks (by omega)) Tryz.call192 9999 ?_ (ha:=by simp[e2]) (hk:=by simp[e2]);simp[e2];refine CI.p (qgw w.r) Tryz.call195 9999 ?_;simp;cases h2:zjt w.r with
  |true=>
   simp[h2];refine⟨by decide+kernel,?_⟩;first|exact fin0 (by simp[h2]) rfl|exact zaa (by simp[h2])
  |false=>
   have w1:IntKind.wrap .i64 ((k:Int)+1)=(k:Int)+1:=zab (by omega) (by omega);simp[h2,w1];refine CI.cc [2880] (delT ((p.tasks.map zef).set k (zef ⟨t.n,w.r⟩)) k (by simpa using e2)) Tryz.call196 9999 ?_;simp;refine CI.p (qvg p.done ⟨t.n,w.r⟩ (by omega)) Tryz.call197 9999 ?_;simp;refine⟨by decide+kernel,?_⟩;first|exact fin0 (by simp[h2,ze6,List.eraseIdx_set_eq]) rfl|exact zaa (by simp[h2,ze6,List.eraseIdx_set_eq])
end Go.Proofs.YtjoaclgkjhncjaaGreatDoor
