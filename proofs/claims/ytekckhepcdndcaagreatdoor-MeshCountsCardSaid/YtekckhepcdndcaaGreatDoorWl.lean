/-
  LAYERS 18 to 23: the walks of picking, of pins by their places, of requests, of their pool.
-/
import Derived.Test.YtekckhepcdndcaaGreatDoorWk
import Derived.Test.YtekckhepcdndcaaGreatDoorPq
import Derived.Test.YtekckhepcdndcaaGreatDoorWb
import Derived.Test.YtekckhepcdndcaaGreatDoorFd
import Derived.Shelf.Lays2
import Derived.Shelf.RegionOpenPlain
import Derived.WalkKit
import Derived.Deep.LoopGhost
import Derived.Deep.RegionLaw
import Derived.Lib.Walk
import Derived.Sort.WalkB12
import Derived.Sort.EncStr
import Derived.Lib.SliceRun
import Derived.Lib.SlicesDelete
import Derived.Test.YtekckhepcdndcaaGreatDoorWi
set_option linter.unusedSimpArgs false
set_option linter.unusedVariables false
namespace Go.Proofs.YtekckhepcdndcaaGreatDoor
open Go.AI Go.G
set_option maxRecDepth 20000
theorem qwz (s p:Str):Ct Tryz.prog 338 [str s,str p] [] [] (bool (pfx s p)) []:=zpo s p
theorem qqf (s p:Str):Ct Tryz.prog 282 [str s,str p] [] [] (bool (pfx s p)) []:=zrk s p
attribute [simp] Tryz.ntmps396 Tryz.results396
theorem qim (s p:Str):Ct Tryz.prog 396 [str s,str p] [] [] (.tup [str (cutS s p),bool (pfx s p)]) []:=by
 refine Ct.B Tryz.func396 mixed 9999 400 ?_;simp;have hs:=zbh s;have hp:=zbh p;refine CI.p (qwz s p) Tryz.call338 9999 ?_;simp;unfold cutS;cases h1:pfx s p with
 |false=>
  simp[h1];first|exact fin0 (by simp) rfl|exact zaa (by simp)
 |true=>
  have h1':(bs p).length≤(bs s).length:=by
   simp only[pfx,Bool.and_eq_true,decide_eq_true_eq]at h1;exact h1.1
  simp[h1,hs,hp];refine⟨by omega,?_⟩;first|exact fin0 (by simp) rfl|exact zaa (by simp)
attribute [simp] Tryz.ntmps371 Tryz.results371
theorem zrq (s p:Str):Ct Tryz.prog 371 [str s,str p] [] [] (.tup [str (cutS s p),bool (pfx s p)]) []:=by
 refine Ct.B Tryz.func371 mixed 9999 400 ?_;simp;refine CI.p (qim s p) Tryz.call396 9999 ?_;simp;first|exact fin0 (by simp) rfl|exact zaa (by simp)
attribute [simp] Tryz.ntmps397 Tryz.results397
theorem qhv (s p:Str)(hl:(bs s).length≤1000000):Ct Tryz.prog 397 [str s,str p] [] [] (bool (sfx s p)) []:=by
 refine Ct.B Tryz.func397 mixed 9999 400 ?_;simp;have hs:=zbh s;have hp:=zbh p;unfold sfx;simp[hs,hp];have e:decide (s.extract ((bs s).length-(bs p).length) (bs s).length=p)=decide ((bs s).drop ((bs s).length-(bs p).length)=bs p):=decide_eq_decide.2 (by rw[zuf,zyw]);refine sGI (fun h1=>?_) (fun h1=>?_)<;>simp only[h1]<;>simp[hs,hp]
 ·have h1':=of_decide_eq_true h1;have w1:IntKind.wrap .i64 (((bs s).length:Int)-(bs p).length)=((bs s).length-(bs p).length:Nat):=by rw[zab (by omega) (by omega)];omega
  simp[w1];rw[←e];first|exact fin0 (by simp[h1]) rfl|exact zaa (by simp[h1])
 ·first|exact fin0 (by simp[h1]) rfl|exact zaa (by simp[h1])
attribute [simp] Tryz.ntmps372 Tryz.results372
theorem zrj (s p:Str)(hl:(bs s).length≤1000000):Ct Tryz.prog 372 [str s,str p] [] [] (bool (sfx s p)) []:=by
 refine Ct.B Tryz.func372 mixed 9999 400 ?_;simp;refine CI.p (qhv s p hl) Tryz.call397 9999 ?_;simp;first|exact fin0 (by simp) rfl|exact zaa (by simp)
attribute [simp] Tryz.ntmps330 Tryz.results330
theorem qg7 (p h:Str)(hp:(bs p).length≤1000000)(hh:(bs h).length≤1000000):Ct Tryz.prog 330 [str p,str h] [] [] (bool (zm9 p h)) []:=by
 refine Ct.B Tryz.func330 mixed 9999 400 ?_;simp;have hs:=zbh h;have hq:=zbh (cutS p ⟨#[42]⟩);unfold zm9;refine CI.p (qhr p) Tryz.call223 9999 ?_;simp;cases h1:zml p with
 |false=>
  simp[h1];first|exact fin0 (by simp) rfl|exact zaa (by simp)
 |true=>
  simp[h1];refine CI.p (qhr h) Tryz.call223 9999 ?_;simp;cases h2:zml h with
  |false=>
   simp[h2];first|exact fin0 (by simp) rfl|exact zaa (by simp)
  |true=>
   simp[h2];refine CI.p (qqf h ⟨#[42]⟩) Tryz.call282 9999 ?_;simp;cases h3:pfx h ⟨#[42]⟩with
   |true=>
    simp[h3];first|exact fin0 (by simp) rfl|exact zaa (by simp)
   |false=>
    simp[h3];by_cases h4:p=⟨#[42]⟩
    ·simp[h4];first|exact fin0 (by simp) rfl|exact zaa (by simp)
    ·by_cases h5:p=h
     ·subst h5;simp[h4];first|exact fin0 (by simp) rfl|exact zaa (by simp)
     ·simp[h4,h5];refine CI.p (zrq p ⟨#[42]⟩) Tryz.call371 9999 ?_;simp;cases h6:pfx p ⟨#[42]⟩with
      |false=>
       simp[h6];first|exact fin0 (by simp[h6]) rfl|exact zaa (by simp[h6])
      |true=>
       simp[h6];by_cases h7:(bs (cutS p ⟨#[42]⟩)).length<(bs h).length
       ·simp[h7,hs,hq];refine CI.p (zrj h (cutS p ⟨#[42]⟩) hh) Tryz.call372 9999 ?_;simp;first|exact fin0 (by simp[h6,h7]) rfl|exact zaa (by simp[h6,h7])
       ·simp[h7,hs,hq];first|exact fin0 (by simp[h6,h7]) rfl|exact zaa (by simp[h6,h7])
attribute [simp] Tryz.ntmps331 Tryz.results331
theorem qog (p s:Str)(hp:(bs p).length≤1000000)(hh:(bs s).length≤1000000):Ct Tryz.prog 331 [str p,str s] [] [] (bool (zod p s)) []:=by
 refine Ct.B Tryz.func331 mixed 9999 400 ?_;simp;unfold zod;refine CI.p (zrq s p) Tryz.call371 9999 ?_;simp;cases h1:pfx s p with
 |false=>
  simp[h1];first|exact fin0 (by simp) rfl|exact zaa (by simp)
 |true=>
  simp[h1];refine CI.p (qgg p) Tryz.call224 9999 ?_;simp;cases h2:zj4 p with
  |false=>
   simp[h2];first|exact fin0 (by simp) rfl|exact zaa (by simp)
  |true=>
   simp[h2];refine CI.p (qgg s) Tryz.call224 9999 ?_;simp;cases h3:zj4 s with
   |false=>
    simp[h3];first|exact fin0 (by simp) rfl|exact zaa (by simp)
   |true=>
    simp[h3];by_cases h4:cutS s p=⟨#[]⟩
    ·simp[h4];first|exact fin0 (by simp[h4]) rfl|exact zaa (by simp[h4])
    ·simp[h4];refine CI.p (zrj p ⟨#[47]⟩ hp) Tryz.call372 9999 ?_;simp;cases h5:sfx p ⟨#[47]⟩with
     |true=>
      simp[h5];first|exact fin0 (by simp[h4,h5]) rfl|exact zaa (by simp[h4,h5])
     |false=>
      simp[h5];refine CI.p (qqf (cutS s p) ⟨#[47]⟩) Tryz.call282 9999 ?_;simp;first|exact fin0 (by simp[h4,h5]) rfl|exact zaa (by simp[h4,h5])
attribute [simp] Tryz.ntmps398 Tryz.results398
theorem qd3 (s:Str):Ct Tryz.prog 398 [str s] [] [] (int (zql s)) []:=by
 refine Ct.B Tryz.func398 mixed 9999 400 ?_;simp;have hs:=zbh s;unfold zql;by_cases h1:s=⟨#[42]⟩
 ·simp[h1];first|exact fin0 (by simp) rfl|exact zaa (by simp)
 ·simp[h1];refine CI.p (qqf s ⟨#[42,46]⟩) Tryz.call282 9999 ?_;simp;cases h2:pfx s ⟨#[42,46]⟩with
  |true=>
   simp[h2];first|exact fin0 (by simp[hs]) rfl|exact zaa (by simp[hs])
  |false=>
   simp[h2];first|exact fin0 (by simp) rfl|exact zaa (by simp)
attribute [simp] Tryz.ntmps373 Tryz.results373
theorem qk6 (a b:Str):Ct Tryz.prog 373 [str a,str b] [] [] (int (zj6 a b)) []:=by
 refine Ct.B Tryz.func373 mixed 9999 400 ?_;simp;refine CI.p (qd3 a) Tryz.call398 9999 ?_;simp;refine CI.p (qd3 b) Tryz.call398 9999 ?_;simp;refine CI.p (zwr (zql a) (zql b)) Tryz.call341 9999 ?_;simp;first|exact fin0 (by simp[zj6,cmpI]) rfl|exact zaa (by simp[zj6,cmpI])
attribute [simp] Tryz.ntmps332 Tryz.results332
theorem qso (a b:Rule):Ct Tryz.prog 332 [st (zbn a),st (zbn b)] [] [] (bool (qbg a b)) []:=by
 refine Ct.B Tryz.func332 mixed 9999 400 ?_;simp;have hs:=zbh a.pre;have hq:=zbh b.pre;unfold qbg;refine CI.p (qk6 a.host b.host) Tryz.call373 9999 ?_;simp;by_cases h1:0<zj6 a.host b.host
 ·simp[h1];first|exact fin0 (by simp) rfl|exact zaa (by simp)
 ·by_cases h2:zj6 a.host b.host<0
  ·simp[h1,h2];first|exact fin0 (by simp) rfl|exact zaa (by simp)
  ·simp[h1,h2];first|exact fin0 (by simp[hs,hq]) rfl|exact zaa (by simp[hs,hq])
end Go.Proofs.YtekckhepcdndcaaGreatDoor
namespace Go.Proofs.YtekckhepcdndcaaGreatDoor
open Go.AI Go.G
set_option maxRecDepth 20000
attribute [simp] Tryz.ntmps328 Tryz.results328
theorem qv5 (l:List Rule)(kf:D)(may:Rule→Bool)(hf:∀x∈l,FnOk Tryz.prog (.d kf) [st (zbn x)] (bool (may x)))(hl:l.length≤1000000):Ct Tryz.prog 328 [lst (l.map zbn),.d kf,.d (fnD 332)] [] [] (.tup [st (zbn (l.foldl (zbo may) (zRule,false)).1),bool (l.foldl (zbo may) (zRule,false)).2]) []:=by
 refine Ct.B Tryz.func328 mixed 9999 400 ?_;simp;refine LoopI.U mixed (l) (fun k=>[(1,.d kf),(2,.d (fnD 332)),(6,.ptr 65 0),(8,.ptr 64 0),(9,bool ((l.take k.1).foldl (zbo may) (zRule,false)).2),(12,lst (l.map zbn)),(13,int l.length),(14,int k.1)]) (fun k=>[(64,.cells [str ((l.take k.1).foldl (zbo may) (zRule,false)).1.host,str ((l.take k.1).foldl (zbo may) (zRule,false)).1.pre,lst (((l.take k.1).foldl (zbo may) (zRule,false)).1.split.map wC)] 151),(65,.cells [str ⟨#[]⟩,str ⟨#[]⟩,lst []] 151)]) 66 [] (by constructor<;>simp) ?_;rintro⟨k,hk1⟩ B hB;refine CI.run 9999 400 rfl ?_;simp;refine sBI (fun h=>?_) (fun h=>?_)
 ·have hk:k<(l).length:=by simpa using h
  obtain⟨r,hx,hr,hm,ht,hd⟩:=inL hk;have hw:=wr (k:=k) (by omega);simp only[h];simp[hr,hw];generalize hz:(l.take k).foldl (zbo may) (zRule,false)=z;refine CI.ff (hf r hm) rfl rfl rfl 9999 ?_;simp;cases h1:may r with
  |false=>
   have e:zbo may z r=z:=by simp[zbo,h1]
   simp[h1];refine hB _ ⟨k+1,by omega⟩ [] ?_ (by simp;omega);constructor<;>simp[hw,ht,hz,e]
  |true=>
   simp[h1];cases h2:z.2 with
   |false=>
    have e:zbo may z r=(r,true):=by simp[zbo,h1,h2]
    simp[h2];refine hB _ ⟨k+1,by omega⟩ [] ?_ (by simp;omega);constructor<;>simp[hw,ht,hz,e]
   |true=>
    simp[h2];refine CI.ff (FnOk.of (qso r z.1) Tryz.call332 rfl rfl) rfl rfl rfl 9999 ?_;simp;cases h3:qbg r z.1 with
    |true=>
     have e:zbo may z r=(r,true):=by simp[zbo,h1,h3]
     simp[h3];refine hB _ ⟨k+1,by omega⟩ [] ?_ (by simp;omega);constructor<;>simp[hw,ht,hz,e]
    |false=>
     have e:zbo may z r=z:=by simp[zbo,h1,h2,h3]
     simp[h3];refine hB _ ⟨k+1,by omega⟩ [] ?_ (by simp;omega);constructor<;>simp[hw,ht,hz,e,h2]
 ·have hkl:k=(l).length:=by simp at h;omega
  subst hkl;simp only[h];simp[List.take_length,List.drop_length];first|exact fin0 (by simp) rfl|exact zaa (by simp)
attribute [simp] Tryz.ntmps329 Tryz.results329
theorem qpz (r:Rule)(h s:Str)(hh:(bs h).length≤1000000)(hs:(bs s).length≤1000000)(hr:(bs r.host).length≤1000000)(hp:(bs r.pre).length≤1000000):Ct Tryz.prog 329 [st (zbn r),.d (.pro [sD h]),.d (.pro [sD s])] [] [] (bool (zm9 r.host h&&zod r.pre s)) []:=by
 refine Ct.B Tryz.func329 mixed 9999 400 ?_;simp;refine CI.p (qg7 r.host h hr hh) Tryz.call330 9999 ?_;simp;cases h1:zm9 r.host h with
 |false=>
  simp[h1];first|exact fin0 (by simp) rfl|exact zaa (by simp)
 |true=>
  simp[h1];refine CI.p (qog r.pre s hp hs) Tryz.call331 9999 ?_;simp;first|exact fin0 (by simp) rfl|exact zaa (by simp)
attribute [simp] Tryz.ntmps276 Tryz.results276
theorem qp4 (l:List Rule)(h s:Str)(hh:(bs h).length≤1000000)(hs:(bs s).length≤1000000)(hr:∀r∈l,(bs r.host).length≤1000000∧(bs r.pre).length≤1000000)(hl:l.length≤1000000):Ct Tryz.prog 276 [lst (l.map zbn),str h,str s] [] [] (.tup [st (zbn (zp9 l h s).1),bool (zp9 l h s).2]) []:=by
 refine Ct.B Tryz.func276 mixed 1 400 ?_;simp;refine CI.s (tm:=[(0,lst (l.map zbn)),(4,.d (.pro [sD h])),(5,.d (.pro [sD s])),(6,.ptr 192 0)]) (mm:=[(192,.cells [str ⟨#[]⟩,str ⟨#[]⟩,lst []] 151)]) (nx:=193) [] [64,128] (by constructor<;>simp) ?_;refine CI.run 9999 400 rfl ?_;simp;refine CI.p (qv5 l (.fn (.func 329) [] [.pro [sD h],.pro [sD s]]) (fun r=>zm9 r.host h&&zod r.pre s) (fun r hr'=>FnOk.clo (qpz r h s hh hs (hr r hr').1 (hr r hr').2) Tryz.call329 rfl rfl) hl) Tryz.call328 9999 ?_;simp;first|exact fin0 (by simp[zp9]) rfl|exact zaa (by simp[zp9])
attribute [simp] Tryz.ntmps334 Tryz.results334
theorem zzg (w:Weight):Ct Tryz.prog 334 [st (wC w)] [] [] (int (zbl w)) []:=by
 refine Ct.B Tryz.func334 mixed 9999 400 ?_;simp;have e:=bndW w.w;first|exact fin0 (by simp[e,zbl]) rfl|exact zaa (by simp[e,zbl])
attribute [simp] Tryz.ntmps333 Tryz.results333
theorem qok (l:List Weight)(hl:l.length≤1000000):Ct Tryz.prog 333 [lst (l.map wC)] [] [] (int (zf6 l)) []:=by
 refine Ct.B Tryz.func333 mixed 9999 400 ?_;simp;refine LoopI.U mixed (l) (fun k=>[(3,int (zf6 (l.take k.1))),(6,lst (l.map wC)),(7,int l.length),(8,int k.1)]) (fun k=>[]) 64 [] (by constructor<;>simp[zqm]) ?_;rintro⟨k,hk1⟩ B hB;refine CI.run 9999 400 rfl ?_;simp[zqm];refine sBI (fun h=>?_) (fun h=>?_)
 ·have hk:k<(l).length:=by simpa using h
  obtain⟨w,hx,hr,hm,ht,hd⟩:=inL hk;have hw:=wr (k:=k) (by omega);simp only[h];simp[hr,hw];have hb:=zqn (l.take k);have hwb:=zju w;have hlen:(l.take k).length≤1000000:=by simp;omega
  have w1:IntKind.wrap .i64 (zf6 (l.take k)+zbl w)=zf6 (l.take k)+zbl w:=zab (by omega) (by omega);refine CI.p (zzg w) Tryz.call334 9999 ?_ (ha:=by simp[w1]);simp[w1];refine hB _ ⟨k+1,by omega⟩ [] ?_ (by simp;omega);constructor<;>simp[hw,ht,qbw]
 ·have hkl:k=(l).length:=by simp at h;omega
  subst hkl;simp only[h];simp[List.take_length,List.drop_length];first|exact fin0 (by simp) rfl|exact zaa (by simp)
attribute [simp] Tryz.ntmps277 Tryz.results277
theorem qml (l:List Weight)(draw:Int)(hl:l.length≤1000000):Ct Tryz.prog 277 [lst (l.map wC),int draw] [] [] (.tup [str (zn7 l draw).1,bool (zn7 l draw).2]) []:=by
 refine Ct.B Tryz.func277 mixed 9999 400 ?_;simp;have hb:=zqn l;refine CI.p (qok l hl) Tryz.call333 9999 ?_;simp;unfold zn7;generalize zf6 l=n at*;by_cases hn:n=0
 ·simp[hn];first|exact fin0 (by simp) rfl|exact zaa (by simp)
 ·have hn1:¬(n:Int)=0:=hn;have e0:(if 0<draw then draw else 0).tmod n=(max 0 draw).tmod n:=by rw[show(if 0<draw then draw else 0)=max 0 draw by omega]
  have h2:=Int.tmod_lt_of_pos (max 0 draw) (b:=n) (by omega);have h3:=Int.tmod_nonneg (a:=max 0 draw) n (by omega);simp[hn,e0];generalize(max 0 draw).tmod n=n0 at*;refine LoopI.inv mixed rfl (ι:={z:Nat×Int//z.1≤l.length∧ChI l n0 z.1 z.2}) (fun k=>[(7,int k.1.2),(18,lst (l.map wC)),(19,int l.length),(20,int k.1.1)]) (fun k=>[]) 64 (fun k=>l.length-k.1.1) ⟨(0,n0),by omega,⟨rfl,h3,Int.le_refl _⟩⟩ [] (by constructor<;>simp) ?_;rintro⟨⟨k,left⟩,hk1,hI⟩ B hB;simp only at hk1 hI;refine CI.run 9999 400 rfl ?_;simp;refine sBI (fun h=>?_) (fun h=>?_)<;>simp only[h]<;>simp<;>(try simp only[nT,nF,dT,dF]at h)
  ·have hk:k<l.length:=by simpa using h
   obtain⟨w,hx,hr,hm,ht,hd⟩:=inL hk;have hw:=wr (k:=k) (by omega);have hwb:=zju w;have l0:=hI.l0;have l1:=hI.l1;obtain⟨s1,s2⟩:=hI.step hd;have w1:IntKind.wrap .i64 (left-zbl w)=left-zbl w:=zab (by omega) (by omega);simp[hr,hw];refine CI.p (zzg w) Tryz.call334 9999 ?_ (ha:=by simp[w1]);simp[w1];refine sBI (fun h3=>?_) (fun h3=>?_)<;>simp only[h3]<;>simp<;>(try simp only[nT,nF,dT,dF]at h3)
   ·first|exact fin0 (by simp[s1 h3]) rfl|exact zaa (by simp[s1 h3])
   ·refine hB _ ⟨(k+1,left-zbl w),hk,s2 h3⟩ [] ?_ (by simp;omega);constructor<;>simp[hw,w1]
  ·have hkl:k=l.length:=by simp at h;omega
   subst hkl;first|exact fin0 (by simp[hI.last]) rfl|exact zaa (by simp[hI.last])
attribute [simp] Tryz.ntmps278 Tryz.results278
theorem qqd (l:List Int)(draw:Int)(hl:l.length≤1000000):Ct Tryz.prog 278 [lst (l.map intC),int draw] [] [] (.tup [int (zne l draw).1,bool (zne l draw).2]) []:=by
 refine Ct.B Tryz.func278 mixed 9999 400 ?_;simp;by_cases hq:l=[]
 ·subst hq;simp;first|exact fin0 (by simp[zne]) rfl|exact zaa (by simp[zne])
 ·obtain⟨k,e1,e2,e3⟩:=qhs draw hq;have hz:¬(l.length:Int)=0:=by have:=List.length_pos_iff.2 hq;omega
  simp[hq,e1,e2];first|exact fin0 (by simp[e3,e2]) rfl|exact zaa (by simp[e3,e2])
end Go.Proofs.YtekckhepcdndcaaGreatDoor
namespace Go.Proofs.YtekckhepcdndcaaGreatDoor
open Go.AI Go.G Go.Shelf Go.RowKit Go.Lib Go.Sort
set_option maxRecDepth 1000000
set_option maxHeartbeats 4000000 in
theorem zy1 :qbq Tryz.prog 374 3 88:=by
 intro blk cap k len news w W2 hk hlen hm A hA hsrc s1 s2 s3 hcl;have t22:Tryz.prog.underlying 88=some (.slice 312):=by kernel_rfl
 obtain⟨i0,d0,z0,hi0,_,_,hti⟩:=zah qos;have hz1:i0.size=3:=(congrArg TI.sz hti).symm;obtain⟨W1,hW1⟩:∃W1,W1=w.drew.setCells blk (0+k*3) news:=⟨_,rfl⟩;rw[←hW1]at hcl;have hW:Hid (W1=w.drew.setCells blk (0+k*3) news):=hW1;have hic:k≤cap:=by omega
 have hb1:(0:Int)≤(k:Int)+1:=by omega
 have hb2:(k:Int)+1≤len:=by omega
 have mixed:Tryz.prog.follows .mixedOrders=true:=mixed;have hjc:k+1≤cap:=by omega
 clear hW1
 go_enter Tryz.func374,Tryz.ntmps374
 go_wp2_with fail
 go_region_law_o (refine step_append_room rfl (.tmp 22) (.tmp 25) 88 rfl 312 i0 3 t22 hi0 hz1 blk 0 k cap (by simp[Act.eval,Act.put]) A (len-(k+1)) (cap-(k+1)) news (by simp[Act.eval,Act.put]) s1.out hsrc.out s2.out (by omega) s3.out ?_;rw[←hW.out])
 go_wp2
 go_ret
 refine⟨by rw[show len-1=k+(len-(k+1)) by omega];rfl,rfl⟩
set_option maxHeartbeats 4000000 in
theorem zy0 :qbq Tryz.prog 162 13 113:=by
 intro blk cap k len news w W2 hk hlen hm A hA hsrc s1 s2 s3 hcl;have t22:Tryz.prog.underlying 113=some (.slice 213):=by kernel_rfl
 obtain⟨i0,d0,z0,hi0,_,_,hti⟩:=zah qot;have hz1:i0.size=13:=(congrArg TI.sz hti).symm;obtain⟨W1,hW1⟩:∃W1,W1=w.drew.setCells blk (0+k*13) news:=⟨_,rfl⟩;rw[←hW1]at hcl;have hW:Hid (W1=w.drew.setCells blk (0+k*13) news):=hW1;have hic:k≤cap:=by omega
 have hb1:(0:Int)≤(k:Int)+1:=by omega
 have hb2:(k:Int)+1≤len:=by omega
 have mixed:Tryz.prog.follows .mixedOrders=true:=mixed;have hjc:k+1≤cap:=by omega
 clear hW1
 go_enter Tryz.func162,Tryz.ntmps162
 go_wp2_with fail
 go_region_law_o (refine step_append_room rfl (.tmp 22) (.tmp 25) 113 rfl 213 i0 13 t22 hi0 hz1 blk 0 k cap (by simp[Act.eval,Act.put]) A (len-(k+1)) (cap-(k+1)) news (by simp[Act.eval,Act.put]) s1.out hsrc.out s2.out (by omega) s3.out ?_;rw[←hW.out])
 go_wp2
 go_ret
 refine⟨by rw[show len-1=k+(len-(k+1)) by omega];rfl,rfl⟩
end Go.Proofs.YtekckhepcdndcaaGreatDoor
namespace Go.Proofs.YtekckhepcdndcaaGreatDoor
open Go.AI Go.G
set_option maxRecDepth 20000
attribute [simp] Tryz.ntmps370 Tryz.results370
theorem qf8 (p:Pins)(id:Int)(h:p.snaps.length≤1000000):Ct Tryz.prog 370 [st (zie p),int id] [] [] (int (zb4 p id)) []:=by
 refine Ct.of_body Tryz.func370 rfl mixed (by rw[Tryz.ntmps370];simp) (CI.seq (CI.cutTo mixed (ι:=Unit) (fun _=>[(1,int id),(2,.ptr 64 0)]) (fun _=>[(64,.cells [int p.next,lst (p.snaps.map zc6)] 90)]) 65 rfl (fun B hB=>CI.run 9999 400 rfl ?_) fun _=>?_))
 ·simp;refine hB _ () [] ?_;constructor<;>simp
 refine CI.jumps mixed (Plain.retC _ _ _ _ _) (ι:={k:Nat//k≤p.snaps.length∧zde p.snaps id p.snaps.length=zde p.snaps id k}) (fun k=>[(1,int id),(2,.ptr 64 0),(5,int ((k.1:Int)-1))]) (fun k=>[(64,.cells [int p.next,lst (p.snaps.map zc6)] 90)]) 65 (fun k=>k.1) ⟨p.snaps.length,Nat.le_refl _,rfl⟩ rfl (fun B hB=>?_) ?_
 ·refine CI.run 9999 400 rfl ?_;simp;refine CI.p (zs8 p (by omega)) Tryz.call214 9999 ?_;simp;refine hB _ [] ?_;constructor<;>simp
 rintro⟨k,hk,e⟩ B hB;cases k with
 |zero=>
  refine CI.run 3 400 rfl ?_;simp;first|exact fin0 (by simp[zb4,e,zde]) rfl|exact zaa (by simp[zb4,e,zde])
 |succ j=>
  have hj:j<p.snaps.length:=by omega
  have e1:((j+1:Nat):Int)-1=j:=by omega
  have e2:p.snaps[j]? =some p.snaps[j]:=List.getElem?_eq_getElem hj;generalize hs:p.snaps[j]=s at*;by_cases hq:s.id=id
  ·have e3:zde p.snaps id (j+1)=j:=by simp[zde,e2,hq]
   refine CI.run 3 400 rfl ?_;simp[e1,e2,hj,hs,hq];first|exact fin0 (by simp[zb4,e,e3]) rfl|exact zaa (by simp[zb4,e,e3])
  ·have e3:zde p.snaps id (j+1)=zde p.snaps id j:=by simp[zde,e2,hq]
   have w1:IntKind.wrap .i64 ((j:Int)-1)=j-1:=zab (by omega) (by omega);refine CI.run 3 400 rfl ?_;simp[e1,e2,hj,hs,hq,w1];refine CI.cutTo mixed (ι:=Unit) (fun _=>[(1,int id),(2,.ptr 64 0),(5,int ((j:Int)-1))]) (fun _=>[(64,.cells [int p.next,lst (p.snaps.map zc6)] 90)]) 65 rfl (fun B' hB'=>CI.run 9999 400 rfl ?_) fun _=>CI.goto ⟨rfl,hB _ ⟨j,by omega,by rw[e,e3]⟩ [] ?_ (by simp)⟩
   ·simp[w1];refine hB' _ () [] ?_;constructor<;>simp
   ·constructor<;>simp
theorem zpx (l:List Snap)(hne:l≠[])(hl:l.length≤1000000):Ct Tryz.prog 257 [lst (l.map zc6)] [] [] (.own 64) [(64,.grow 3 (l.map zc6) 312)]:=by
 cases l with
 |nil=>exact absurd rfl hne
 |cons x l=>exact zrs x l (by simp at hl;omega)
attribute [simp] Tryz.ntmps325 Tryz.results325
theorem qwy (p:Pins)(hp:OkPins p):Ct Tryz.prog 325 [st (zie p)] [] [] (.tup [st (zie (pinP p).1),int (pinP p).2.1,int (pinP p).2.2]) []:=by
 refine Ct.B Tryz.func325 mixed 9999 400 ?_;simp;refine CI.p (ziy p hp) Tryz.call213 9999 ?_;simp;have hs:=zhd p;have hb:=zi2 (saneP_iff.1 (zc2 p)).1;have hq0:=zc2 p;unfold pinP;generalize zax p=q at*;refine CI.p (zs8 q (by omega)) Tryz.call214 9999 ?_;simp;obtain⟨nx,l⟩:=q;simp only at*;rcases zre l with e|⟨i,s,e⟩
 ·subst e;simp;first|exact fin0 (by simp[pinQ]) rfl|exact zaa (by simp[pinQ])
 ·subst e;have hs2:=(hb s (by simp)).2.1;have hs0:=zi1 (saneP_iff.1 hq0).1 s (by simp);have hsl:i.length+1≤1000:=by simpa using hs
  have e1:(((i++[s]).length:Int)-1)=i.length:=by simp
  have e2:¬(i.length:Int)<0:=by omega
  by_cases h1:s.pins=10000
  ·simp[e1,e2,h1];first|exact fin0 (by simp[pinQ,h1]) rfl|exact zaa (by simp[pinQ,h1])
  ·simp[e1,e2,h1];have w1:IntKind.wrap .i64 (s.pins+1)=s.pins+1:=zab (by omega) (by omega);refine CI.cc [] (zpx (i++[s]) (by simp) (by simp;omega)) Tryz.call257 9999 ?_;simp;have hlt:(i.length:Int)<i.length+1:=by omega
   simp[hlt,qax,qj0,w1];refine⟨by decide+kernel,?_⟩;first|exact fin0 (by simp[pinQ,h1]) rfl|exact zaa (by simp[pinQ,h1])
attribute [simp] Tryz.ntmps327 Tryz.results327
theorem qrx (p:Pins)(id:Int)(hp:OkPins p):Ct Tryz.prog 327 [st (zie p),int id] [] [] (.tup [lst (((getP p id).getD []).map resC),bool (getP p id).isSome]) []:=by
 refine Ct.B Tryz.func327 mixed 9999 400 ?_;simp;refine CI.p (ziy p hp) Tryz.call213 9999 ?_;simp;have hs:=zhd p;unfold getP getQ;generalize zax p=q at*;refine CI.p (qf8 q id (by omega)) Tryz.call370 9999 ?_;simp;have hr:=zj3 q.snaps id q.snaps.length;change-1≤zb4 q id∧zb4 q id<q.snaps.length at hr;by_cases h1:zb4 q id<0
 ·simp[h1];first|exact fin0 (by simp[h1]) rfl|exact zaa (by simp[h1])
 ·obtain⟨k,hk⟩:∃k:Nat,zb4 q id=k:=⟨(zb4 q id).toNat,by omega⟩;rw[hk]at h1 hr⊢;have hkl:k<q.snaps.length:=by omega
  simp[hk,h1,hkl];first|exact fin0 (by simp[h1,hkl]) rfl|exact zaa (by simp[h1,hkl])
theorem delS (l:List (List D))(k:Nat)(hk:k<l.length):Ct Tryz.prog 374 [.own 0,int k,int ((k:Int)+1)] [] [(0,.grow 3 l 312)] (lst (l.eraseIdx k)) []:=
 Ct.deleteT zy1 (by kernel_rfl) qos rfl rfl rfl (by decide) hk
attribute [simp] Tryz.ntmps214 Tryz.results214
theorem qrd (nx:Int)(l:List (List D))(hl:l.length≤1000000):Ct Tryz.prog 214 [.agg [int nx,.own 0]] [(0,.grow 3 l 312)] [] (int ((l.length:Int)-1)) []:=by
 refine Ct.B Tryz.func214 mixed 9999 400 ?_;simp;have w:IntKind.wrap .i64 ((l.length:Int)-1)=(l.length:Int)-1:=zab (by omega) (by omega);simp[w];first| (refine⟨[],?_,?_,?_,?_,?_,?_,?_⟩<;>simp[nmF,inB];done)| (refine⟨by decide+kernel,?_⟩;refine⟨[],?_,?_,?_,?_,?_,?_,?_⟩<;>simp[nmF,inB])
attribute [simp] Tryz.ntmps335 Tryz.results335
theorem qwt (p:Pins)(id:Int)(hp:OkPins p):Ct Tryz.prog 335 [st (zie p),int id] [] [] (.tup [st (zie (relP p id).1),int (relP p id).2]) []:=by
 refine Ct.B Tryz.func335 mixed 9999 400 ?_;simp;refine CI.p (ziy p hp) Tryz.call213 9999 ?_;simp;have hs:=zhd p;have hb:=zi2 (saneP_iff.1 (zc2 p)).1;have hq0:=zc2 p;unfold relP;generalize zax p=q at*;refine CI.p (qf8 q id (by omega)) Tryz.call370 9999 ?_;simp;have hr:=zj3 q.snaps id q.snaps.length;change-1≤zb4 q id∧zb4 q id<q.snaps.length at hr;by_cases h1:zb4 q id<0
 ·simp[h1];first|exact fin0 (by simp[relQ,h1]) rfl|exact zaa (by simp[relQ,h1])
 ·obtain⟨k,hk⟩:∃k:Nat,zb4 q id=k:=⟨(zb4 q id).toNat,by omega⟩;rw[hk]at h1 hr;have hkl:k<q.snaps.length:=by omega
  have e2:q.snaps[k]? =some q.snaps[k]:=List.getElem?_eq_getElem hkl;have hm:q.snaps[k]∈q.snaps:=List.getElem_mem hkl;generalize hsn:q.snaps[k]=s at*;have hs2:=(hb s hm).2.1;have hs0:=zi1 (saneP_iff.1 hq0).1 s hm;simp[hk,h1,hkl,hsn];refine CI.p (qhq s) Tryz.call258 9999 ?_;simp;by_cases h2:s.pins=0
  ·simp[h2];first|exact fin0 (by simp[relQ,hk,h1,e2,h2]) rfl|exact zaa (by simp[relQ,hk,h1,e2,h2])
  ·simp[h2];have w1:IntKind.wrap .i64 (s.pins-1)=s.pins-1:=zab (by omega) (by omega);have hne:q.snaps≠[]:=by intro e;rw[e]at hkl;simp at hkl
   refine CI.cc [] (zpx q.snaps hne (by omega)) Tryz.call257 9999 ?_ (ha:=by simp[w1,hkl,hsn]) (hk:=by simp[w1,hkl,hsn]);simp[w1,hkl,hsn];have hll:((q.snaps.map zc6).set k [iD s.id,iD (s.pins-1),lD (s.l.map resC)]).length≤1000000:=by simp;omega
   refine CI.cc [1472] (qrd q.next ((q.snaps.map zc6).set k [iD s.id,iD (s.pins-1),lD (s.l.map resC)]) hll) Tryz.call214 9999 ?_;simp;by_cases h3:(k:Int)=q.snaps.length-1
   ·have hA:relQ q id=(⟨q.next,q.snaps.set k {s with pins:=s.pins-1}⟩,0):=by
     unfold relQ;rw[if_neg (by omega),hk,Int.toNat_natCast,e2];simp only[h2,if_false];rw[if_neg (by omega)]
    rw[hA];simp[h3];have h5:q.snaps.length-1=k:=by omega
    first|exact fin0 (by simp[h5]) rfl|exact zaa (by simp[h5])
   ·simp[h3,hkl];refine CI.p (qhq {s with pins:=s.pins-1}) Tryz.call258 9999 ?_;simp;by_cases h4:s.pins-1=0
    ·have hA:relQ q id=(⟨q.next,q.snaps.eraseIdx k⟩,0):=by
      unfold relQ;rw[if_neg (by omega),hk,Int.toNat_natCast,e2];simp only[h2,if_false];rw[if_pos (by omega)]
     rw[hA];have w2:IntKind.wrap .i64 ((k:Int)+1)=(k:Int)+1:=zab (by omega) (by omega);simp[h4,w2];refine CI.cc [1472] (delS ((q.snaps.map zc6).set k [iD s.id,iD 0,lD (s.l.map resC)]) k (by simpa using hkl)) Tryz.call374 9999 ?_;simp;first|exact fin0 (by simp[zex,List.eraseIdx_set_eq]) rfl|exact zaa (by simp[zex,List.eraseIdx_set_eq])
    ·have hA:relQ q id=(⟨q.next,q.snaps.set k {s with pins:=s.pins-1}⟩,0):=by
      unfold relQ;rw[if_neg (by omega),hk,Int.toNat_natCast,e2];simp only[h2,if_false];rw[if_neg (by omega)]
     rw[hA];simp[h4];first|exact fin0 (by simp) rfl|exact zaa (by simp)
end Go.Proofs.YtekckhepcdndcaaGreatDoor
namespace Go.Proofs.YtekckhepcdndcaaGreatDoor
open Go.AI Go.G
set_option maxRecDepth 20000
attribute [simp] Tryz.ntmps272 Tryz.results272
theorem qsj (s:Side)(h:OkX s):Ct Tryz.prog 272 [st (zdc s)] [] [] (.tup [st (zdc (zfx s).1),int (zfx s).2.1,int (zfx s).2.2]) []:=by
 refine Ct.B Tryz.func272 mixed 9999 400 ?_;simp;refine CI.p (zkr s h) Tryz.call147 9999 ?_;simp;unfold zfx;have ho:=h.sound;generalize soundX s=q at ho⊢;refine CI.p (qwy q.p ho.pins) Tryz.call325 9999 ?_;simp;first|exact fin0 (by simp) rfl|exact zaa (by simp)
attribute [simp] Tryz.ntmps279 Tryz.results279
theorem qxd (s:Side)(id:Int)(h:OkX s):Ct Tryz.prog 279 [st (zdc s),int id] [] [] (.tup [st (zdc (endX s id).1),lst ((endX s id).2.1.map zai),int (endX s id).2.2]) []:=by
 refine Ct.B Tryz.func279 mixed 9999 400 ?_;simp;refine CI.p (zkr s h) Tryz.call147 9999 ?_;simp;unfold endX;have ho:=h.sound;have ht:=zxi (zfe s);generalize soundX s=q at ho ht⊢;refine CI.p (qwt q.p id ho.pins) Tryz.call335 9999 ?_;simp;have o2:=qgj id ho.pins;unfold endQ;dsimp only;generalize relP q.p id=R at o2⊢;refine CI.p (qau R.1 o2) Tryz.call259 9999 ?_;simp;refine CI.p (qau q.p ho.pins) Tryz.call259 9999 ?_;simp;refine CI.p (qic (zdz R.1) (zdz q.p) (by have:=ztd o2;omega)) Tryz.call137 9999 ?_;simp;refine⟨by decide+kernel,?_⟩;refine sGI (fun h1=>?_) (fun h1=>?_)<;>simp only[h1]<;>simp
 ·have h1':zdz R.1=zdz q.p:=by simpa using h1
  first|exact fin0 (by simp[h1']) rfl|exact zaa (by simp[h1'])
 have h1':¬zdz R.1=zdz q.p:=by simpa using h1
 refine sGI (fun h2=>?_) (fun h2=>?_)<;>simp only[h2]<;>simp
 ·have h2':q.up=false:=by simpa using h2
  first|exact fin0 (by simp[h1',h2']) rfl|exact zaa (by simp[h1',h2'])
 have h2':q.up=true:=by simpa using h2
 refine CI.p (zwf {q with p:=R.1}) Tryz.call150 9999 ?_;simp;refine sBI (fun h3=>?_) (fun h3=>?_)<;>simp only[h3]<;>simp<;>(try simp only[nT,nF,dT,dF]at h3)
 ·first|exact fin0 (by simp[h1',h2',h3]) rfl|exact zaa (by simp[h1',h2',h3])
 ·refine CI.p (zi4 {q with p:=R.1} ⟨3,q.epoch,0,0,0,[],[],0,[],[]⟩ (ho.withP o2) ht.2 ht.1) Tryz.call199 9999 ?_;simp;refine⟨by decide+kernel,?_⟩;first|exact fin0 (by simp[h1',h2',h3,zhy]) rfl|exact zaa (by simp[h1',h2',h3,zhy])
end Go.Proofs.YtekckhepcdndcaaGreatDoor
namespace Go.Proofs.YtekckhepcdndcaaGreatDoor
open Go.AI Go.G
set_option maxRecDepth 20000
attribute [simp] Tryz.ntmps326 Tryz.results326
theorem qha (r:Res)(n:Int):Ct Tryz.prog 326 [st (resC r),.d (.pro [iD n])] [] [] (bool (decide (r.kind=0)&&decide (r.port=n))) []:=by
 refine Ct.B Tryz.func326 mixed 9999 400 ?_;simp
 repeat' first
  | (refine sGI (fun h=>?_) (fun h=>?_)<;>simp only[h]<;>simp[h])
  | (refine sBI (fun h=>?_) (fun h=>?_)<;>simp only[h]<;>simp[h])
  | (refine⟨(show za5 _ _ from by decide+kernel),?_⟩)
  |fail
 all_goals exact fin0 (by simp[*]) rfl
attribute [simp] Tryz.ntmps273 Tryz.results273
theorem qlg (l:List Res)(n:Int)(hl:l.length≤9223372036854775807):Ct Tryz.prog 273 [lst (l.map resC),int n] [] [] (.tup [st (resC ((zmj l n).getD zRes)),bool (zmj l n).isSome]) []:=by
 refine Ct.B Tryz.func273 mixed 1 400 ?_;simp;refine CI.s (tm:=[(0,lst (l.map resC)),(3,.d (.pro [iD n])),(4,.ptr 128 0),(5,bool false)]) (mm:=[(128,.cells [int 0,str ⟨#[]⟩,int 0,int 0,str ⟨#[]⟩,lst [],lst []] 146)]) (nx:=129) [] [64] (by constructor<;>simp) ?_;refine CI.run 9999 400 rfl ?_;simp;refine CI.p (ztb l (.fn (.func 326) [] [.pro [iD n]]) (fun r=>decide (r.kind=0)&&decide (r.port=n)) (fun r hr=>FnOk.clo (qha r n) Tryz.call326 rfl rfl) hl) Tryz.call141 9999 ?_;simp;rcases zja (fun r:Res=>decide (r.kind=0)&&decide (r.port=n)) l with⟨h1,h2⟩|⟨i,x,h1,h2,h3,h4⟩
 ·have e:zmj l n=none:=h2;simp[h1];first|exact fin0 (by simp[e,zRes]) rfl|exact zaa (by simp[e,zRes])
 ·have e:zmj l n=some x:=h4;have hx:l[i]=x:=by rw[List.getElem?_eq_getElem h2]at h3;exact Option.some.inj h3
  have h0:¬(i:Int)<0:=by omega
  simp[h1,h0,h2,h3,hx];first|exact fin0 (by simp[e]) rfl|exact zaa (by simp[e])
attribute [simp] Tryz.ntmps159 Tryz.results159
theorem qns (a:G.Ask):Ct Tryz.prog 159 [st (askC a)] [] [] (st (reqC (newR a))) []:=by
 refine Ct.B Tryz.func159 mixed 9999 400 ?_;simp;first|exact fin0 (by simp[newR,zAns]) rfl|exact zaa (by simp[newR,zAns])
attribute [simp] Tryz.ntmps271 Tryz.results271
theorem qfd (r:Req):Ct Tryz.prog 271 [st (reqC r)] [] [] (bool (zib r)) []:=by
 refine Ct.B Tryz.func271 mixed 9999 400 ?_;simp
 repeat' first
  | (refine sGI (fun h=>?_) (fun h=>?_)<;>simp only[h]<;>simp[h])
  | (refine sBI (fun h=>?_) (fun h=>?_)<;>simp only[h]<;>simp[h])
  | (refine⟨(show za5 _ _ from by decide+kernel),?_⟩)
  |fail
 all_goals exact fin0 (by simp[*,zib]) rfl
attribute [simp] Tryz.ntmps206 Tryz.results206
theorem zzr (r:Req):Ct Tryz.prog 206 [st (reqC r)] [] [] (st (reqC (zeo r))) []:=by
 refine Ct.B Tryz.func206 mixed 9999 400 ?_;simp;refine CI.p (qfd r) Tryz.call271 9999 ?_;simp;refine sBI (fun h1=>?_) (fun h1=>?_)<;>simp only[h1]<;>simp<;>(try simp only[nT,nF,dT,dF]at h1)
 ·refine CI.p (qns r.a) Tryz.call159 9999 ?_;simp;first|exact fin0 (by simp[zeo,h1]) rfl|exact zaa (by simp[zeo,h1])
 ·first|exact fin0 (by simp[zeo,h1]) rfl|exact zaa (by simp[zeo,h1])
attribute [simp] Tryz.ntmps161 Tryz.results161
theorem qfl (r:Req):Ct Tryz.prog 161 [st (reqC r)] [] [] (bool (zjh r)) []:=by
 refine Ct.B Tryz.func161 mixed 9999 400 ?_;simp;refine CI.p (zzr r) Tryz.call206 9999 ?_;simp;first|exact fin0 (by simp[zjh]) rfl|exact zaa (by simp[zjh])
attribute [simp] Tryz.ntmps207 Tryz.results207
theorem qn9 (s:Side)(h:OkX s):Ct Tryz.prog 207 [st (zdc s)] [] [] (st (zdc (soundX s))) []:=by
 refine Ct.B Tryz.func207 mixed 9999 400 ?_;simp;refine CI.p (qfb s h) Tryz.call193 9999 ?_;simp;refine sBI (fun h1=>?_) (fun h1=>?_)<;>simp only[h1]<;>simp<;>(try simp only[nT,nF,dT,dF]at h1)
 ·refine CI.p (zgy s.w.c.cap s.inn.m) Tryz.call48 9999 ?_;simp;first|exact fin0 (by simp[soundX,h1]) rfl|exact zaa (by simp[soundX,h1])
 ·first|exact fin0 (by simp[soundX,h1]) rfl|exact zaa (by simp[soundX,h1])
abbrev zni (w:Work):List (Nat×Blk):=[(0,.cells ((qs4 w).map .d) 308)]
attribute [simp] Tryz.ntmps212 Tryz.results212
theorem zlq (w:Work)(a:Ans)(h:OkX w.s):Ct Tryz.prog 212 [.ptr 0 0,st (ansC a)] [] (zni w) (.tup []) (zni (zf2 w a)):=by
 refine Ct.B Tryz.func212 mixed 9999 400 ?_;simp;by_cases h1:w.r.stage=0
 ·simp[h1];refine⟨by decide+kernel,?_⟩;first| (refine⟨[],?_,?_,?_,?_,?_,?_,?_⟩<;>simp[nmF,inB,zf2,h1];done)| (refine⟨by decide+kernel,?_⟩;refine⟨[],?_,?_,?_,?_,?_,?_,?_⟩<;>simp[nmF,inB,zf2,h1])
 ·simp[h1];refine CI.p (qxd w.s w.r.id h) Tryz.call279 9999 ?_;simp;refine⟨by decide+kernel,?_⟩;first| (refine⟨[],?_,?_,?_,?_,?_,?_,?_⟩<;>simp[nmF,inB,zf2,h1];done)| (refine⟨by decide+kernel,?_⟩;refine⟨[],?_,?_,?_,?_,?_,?_,?_⟩<;>simp[nmF,inB,zf2,h1])
attribute [simp] Tryz.ntmps274 Tryz.results274
theorem qnc (w:Work)(h:OkX w.s):Ct Tryz.prog 274 [.ptr 0 0] (zni w) [] (lst ((zp4 w).map resC)) []:=by
 refine Ct.B Tryz.func274 mixed 9999 400 ?_;simp;refine CI.p (qrx w.s.p w.r.id h.pins) Tryz.call327 9999 ?_;simp;refine⟨by decide+kernel,?_⟩;first| (refine⟨[],?_,?_,?_,?_,?_,?_,?_⟩<;>simp[nmF,inB,zp4];done)| (refine⟨by decide+kernel,?_⟩;refine⟨[],?_,?_,?_,?_,?_,?_,?_⟩<;>simp[nmF,inB,zp4])
attribute [simp] Tryz.ntmps275 Tryz.results275
theorem qrv (w:Work)(k_:Int)(n:Str)(h:OkX w.s):Ct Tryz.prog 275 [.ptr 0 0,int k_,str n] (zni w) [] (.tup [st (resC ((getW w k_ n).getD zRes)),bool (getW w k_ n).isSome]) []:=by
 refine Ct.B Tryz.func275 mixed 9999 400 ?_;simp;have hl:=qa0 h.pins w.r.id;refine CI.cc [0] (qnc w h) Tryz.call274 9999 ?_;simp;refine CI.p (qrw (zp4 w) ⟨k_,n⟩ (by unfold zp4;omega)) Tryz.call229 9999 ?_;simp;first| (refine⟨[],?_,?_,?_,?_,?_,?_,?_⟩<;>simp[nmF,inB,getW];done)| (refine⟨by decide+kernel,?_⟩;refine⟨[],?_,?_,?_,?_,?_,?_,?_⟩<;>simp[nmF,inB,getW])
attribute [simp] Tryz.ntmps208 Tryz.results208
theorem qsk (w:Work)(h:OkX w.s):Ct Tryz.prog 208 [.ptr 0 0] [] (zni w) (.tup []) (zni (ziw w)):=by
 refine Ct.B Tryz.func208 mixed 9999 400 ?_;simp;refine CI.p (qsj w.s h) Tryz.call272 9999 ?_;simp;refine sBI (fun h1=>?_) (fun h1=>?_)<;>simp only[h1]<;>simp<;>(try simp only[nT,nF,dT,dF]at h1)
 ·refine CI.cc [0] (zlq w ⟨0,⟨#[]⟩,0⟩ h) Tryz.call212 9999 ?_;simp;first| (refine⟨[],?_,?_,?_,?_,?_,?_,?_⟩<;>simp[nmF,inB,ziw,h1];done)| (refine⟨by decide+kernel,?_⟩;refine⟨[],?_,?_,?_,?_,?_,?_,?_⟩<;>simp[nmF,inB,ziw,h1])
 ·first| (refine⟨[],?_,?_,?_,?_,?_,?_,?_⟩<;>simp[nmF,inB,ziw,h1];done)| (refine⟨by decide+kernel,?_⟩;refine⟨[],?_,?_,?_,?_,?_,?_,?_⟩<;>simp[nmF,inB,ziw,h1])
attribute [simp] Tryz.ntmps209 Tryz.results209
theorem qlf (w:Work)(h:OkX w.s):Ct Tryz.prog 209 [.ptr 0 0] [] (zni w) (.tup []) (zni (zfr w)):=by
 refine Ct.B Tryz.func209 mixed 9999 400 ?_;simp;refine CI.cc [0] (qnc w h) Tryz.call274 9999 ?_;simp;have hl:=qa0 h.pins w.r.id;refine CI.p (qlg (zp4 w) w.r.a.port (by unfold zp4;omega)) Tryz.call273 9999 ?_;simp;refine⟨by decide+kernel,?_⟩;cases e:zmj (zp4 w) w.r.a.port with
 |none=>
  simp[e];refine CI.cc [0] (zlq w ⟨1,⟨#[]⟩,0⟩ h) Tryz.call212 9999 ?_;simp;first| (refine⟨[],?_,?_,?_,?_,?_,?_,?_⟩<;>simp[nmF,inB,zfr,e];done)| (refine⟨by decide+kernel,?_⟩;refine⟨[],?_,?_,?_,?_,?_,?_,?_⟩<;>simp[nmF,inB,zfr,e])
 |some x=>
  simp[e];first| (refine⟨[],?_,?_,?_,?_,?_,?_,?_⟩<;>simp[nmF,inB,zfr,e];done)| (refine⟨by decide+kernel,?_⟩;refine⟨[],?_,?_,?_,?_,?_,?_,?_⟩<;>simp[nmF,inB,zfr,e])
attribute [simp] Tryz.ntmps210 Tryz.results210
theorem qp0 (w:Work)(h:OkX w.s)(hs:SnP w.s.p)(ha:(bs w.r.a.host).length≤1000000)(hp:(bs w.r.a.path).length≤1000000):Ct Tryz.prog 210 [.ptr 0 0] [] (zni w) (.tup []) (zni (zm5 w)):=by
 refine Ct.B Tryz.func210 mixed 9999 400 ?_;simp;refine CI.cc [0] (qrv w 1 w.r.route h) Tryz.call275 9999 ?_;simp;have hf:FitR ((getW w 1 w.r.route).getD zRes):=qaz (hs.get w.r.id) _;unfold zm5;dsimp only;generalize getW w 1 w.r.route=x at hf⊢;refine CI.p (qp4 (x.getD zRes).rules w.r.a.host w.r.a.path ha hp hf.each hf.rules) Tryz.call276 9999 ?_;simp;refine⟨by decide+kernel,?_⟩;have hc:=qfo hf w.r.a.host w.r.a.path;generalize zp9 (x.getD zRes).rules w.r.a.host w.r.a.path=u at hc⊢;cases x with
 |none=>
  simp;refine CI.cc [0] (zlq w ⟨2,⟨#[]⟩,0⟩ h) Tryz.call212 9999 ?_;simp;first| (refine⟨[],?_,?_,?_,?_,?_,?_,?_⟩<;>simp[nmF,inB];done)| (refine⟨by decide+kernel,?_⟩;refine⟨[],?_,?_,?_,?_,?_,?_,?_⟩<;>simp[nmF,inB])
 |some x=>
  simp;cases hu:u.2 with
  |false=>
   simp[hu];refine CI.cc [0] (zlq w ⟨2,⟨#[]⟩,0⟩ h) Tryz.call212 9999 ?_;simp;first| (refine⟨[],?_,?_,?_,?_,?_,?_,?_⟩<;>simp[nmF,inB,hu];done)| (refine⟨by decide+kernel,?_⟩;refine⟨[],?_,?_,?_,?_,?_,?_,?_⟩<;>simp[nmF,inB,hu])
  |true=>
   simp[hu];refine CI.p (qml u.1.split w.r.a.first hc) Tryz.call277 9999 ?_;simp;refine⟨by decide+kernel,?_⟩;refine sBI (fun h3=>?_) (fun h3=>?_)<;>simp only[h3]<;>simp<;>(try simp only[nT,nF,dT,dF]at h3)
   ·refine CI.cc [0] (zlq w ⟨0,⟨#[]⟩,0⟩ h) Tryz.call212 9999 ?_;simp;first| (refine⟨[],?_,?_,?_,?_,?_,?_,?_⟩<;>simp[nmF,inB,hu,h3];done)| (refine⟨by decide+kernel,?_⟩;refine⟨[],?_,?_,?_,?_,?_,?_,?_⟩<;>simp[nmF,inB,hu,h3])
   ·first| (refine⟨[],?_,?_,?_,?_,?_,?_,?_⟩<;>simp[nmF,inB,hu,h3];done)| (refine⟨by decide+kernel,?_⟩;refine⟨[],?_,?_,?_,?_,?_,?_,?_⟩<;>simp[nmF,inB,hu,h3])
attribute [simp] Tryz.ntmps211 Tryz.results211
theorem qmk (w:Work)(h:OkX w.s)(hs:SnP w.s.p):Ct Tryz.prog 211 [.ptr 0 0] [] (zni w) (.tup []) (zni (zit w)):=by
 refine Ct.B Tryz.func211 mixed 9999 400 ?_;simp;refine CI.cc [0] (qrv w 2 w.r.cluster h) Tryz.call275 9999 ?_;simp;unfold zit;dsimp only;generalize getW w 2 w.r.cluster=c;refine CI.cc [0] (qrv w 3 (c.getD zRes).to h) Tryz.call275 9999 ?_;simp;have hf:FitR ((getW w 3 (c.getD zRes).to).getD zRes):=qaz (hs.get w.r.id) _;generalize getW w 3 (c.getD zRes).to=e at hf⊢;refine CI.p (qqd (e.getD zRes).hosts w.r.a.other hf.hosts) Tryz.call278 9999 ?_;simp;refine⟨by decide+kernel,?_⟩;generalize zne (e.getD zRes).hosts w.r.a.other=u;cases c with
 |none=>
  simp;refine CI.cc [0] (zlq w ⟨0,⟨#[]⟩,0⟩ h) Tryz.call212 9999 ?_;simp;first| (refine⟨[],?_,?_,?_,?_,?_,?_,?_⟩<;>simp[nmF,inB];done)| (refine⟨by decide+kernel,?_⟩;refine⟨[],?_,?_,?_,?_,?_,?_,?_⟩<;>simp[nmF,inB])
 |some c=>
  simp;cases e with
  |none=>
   simp;refine CI.cc [0] (zlq w ⟨0,⟨#[]⟩,0⟩ h) Tryz.call212 9999 ?_;simp;first| (refine⟨[],?_,?_,?_,?_,?_,?_,?_⟩<;>simp[nmF,inB];done)| (refine⟨by decide+kernel,?_⟩;refine⟨[],?_,?_,?_,?_,?_,?_,?_⟩<;>simp[nmF,inB])
  |some e=>
   simp;cases h3:u.2 with
   |false=>
    simp[h3];refine CI.cc [0] (zlq w ⟨0,⟨#[]⟩,0⟩ h) Tryz.call212 9999 ?_;simp;first| (refine⟨[],?_,?_,?_,?_,?_,?_,?_⟩<;>simp[nmF,inB,h3];done)| (refine⟨by decide+kernel,?_⟩;refine⟨[],?_,?_,?_,?_,?_,?_,?_⟩<;>simp[nmF,inB,h3])
   |true=>
    simp[h3];first| (refine⟨[],?_,?_,?_,?_,?_,?_,?_⟩<;>simp[nmF,inB,h3];done)| (refine⟨by decide+kernel,?_⟩;refine⟨[],?_,?_,?_,?_,?_,?_,?_⟩<;>simp[nmF,inB,h3])
attribute [simp] Tryz.ntmps160 Tryz.results160
theorem qo6 (r:Req)(s:Side)(h:OkX s)(hs:SnP s.p)(ha:(bs r.a.host).length≤1000000)(hp:(bs r.a.path).length≤1000000):Ct Tryz.prog 160 [st (reqC r),st (zdc s)] [] [] (.tup [st (reqC (zfd r s).r),st (zdc (zfd r s).s),lst ((zfd r s).told.map zai)]) []:=by
 refine Ct.B Tryz.func160 mixed 2 400 ?_;simp;refine CI.p (zzr r) Tryz.call206 2 ?_;simp;refine CI.p (qn9 s h) Tryz.call207 2 ?_;simp;refine⟨by decide+kernel,?_⟩;unfold zfd stepQ;have ho:=h.sound;have hso:SnP (soundX s).p:=hs.soundX;have hq:=zzs r;generalize soundX s=x at ho hso⊢;generalize zeo r=q at hq⊢;refine CI.s (tm:=[(7,.ptr 704 0),(4,.ptr 192 0),(5,.ptr 256 0),(6,lst [])]) (mm:=[(704,.cells ((qs4 ⟨q,x,[]⟩).map .d) 308),(192,.cells ((reqC ⟨⟨0,⟨#[]⟩,⟨#[]⟩,0,0⟩,0,0,⟨#[]⟩,⟨#[]⟩,zAns⟩).map .d) 211),(256,.cells ((zdc ⟨0,0,false,⟨0,0,0,0,0⟩,⟨0,0,0,0⟩,⟨⟨0,[]⟩,false,[]⟩,⟨0,[]⟩⟩).map .d) 92)]) (nx:=768) [] [] (by constructor<;>simp[zAns]) ?_;refine CI.run 9999 400 rfl ?_;simp;refine sBI (fun h1=>?_) (fun h1=>?_)<;>simp only[h1]<;>simp<;>(try simp only[nT,nF,dT,dF]at h1)
 ·refine CI.cc [704] (qsk ⟨q,x,[]⟩ ho) Tryz.call208 9999 ?_;simp;refine⟨by decide+kernel,?_⟩;first|exact fin0 (by simp[h1]) rfl|exact zaa (by simp[h1])
 refine sBI (fun h2=>?_) (fun h2=>?_)<;>simp only[h2]<;>simp<;>(try simp only[nT,nF,dT,dF]at h2)
 ·refine CI.cc [704] (qlf ⟨q,x,[]⟩ ho) Tryz.call209 9999 ?_;simp;refine⟨by decide+kernel,?_⟩;first|exact fin0 (by simp[h1,h2]) rfl|exact zaa (by simp[h1,h2])
 refine sBI (fun h3=>?_) (fun h3=>?_)<;>simp only[h3]<;>simp<;>(try simp only[nT,nF,dT,dF]at h3)
 ·refine CI.cc [704] (qp0 ⟨q,x,[]⟩ ho hso (by rw[hq];exact ha) (by rw[hq];exact hp)) Tryz.call210 9999 ?_;simp;refine⟨by decide+kernel,?_⟩;first|exact fin0 (by simp[h1,h2,h3]) rfl|exact zaa (by simp[h1,h2,h3])
 refine sBI (fun h4=>?_) (fun h4=>?_)<;>simp only[h4]<;>simp<;>(try simp only[nT,nF,dT,dF]at h4)
 ·refine CI.cc [704] (qmk ⟨q,x,[]⟩ ho hso) Tryz.call211 9999 ?_;simp;refine⟨by decide+kernel,?_⟩;first|exact fin0 (by simp[h1,h2,h3,h4]) rfl|exact zaa (by simp[h1,h2,h3,h4])
 refine sBI (fun h5=>?_) (fun h5=>?_)<;>simp only[h5]<;>simp<;>(try simp only[nT,nF,dT,dF]at h5)
 ·refine CI.cc [704] (zlq ⟨q,x,[]⟩ q.out ho) Tryz.call212 9999 ?_;simp;refine⟨by decide+kernel,?_⟩;first|exact fin0 (by simp[h1,h2,h3,h4,h5]) rfl|exact zaa (by simp[h1,h2,h3,h4,h5])
 ·refine⟨by decide+kernel,?_⟩;first|exact fin0 (by simp[h1,h2,h3,h4,h5]) rfl|exact zaa (by simp[h1,h2,h3,h4,h5])
end Go.Proofs.YtekckhepcdndcaaGreatDoor
namespace Go.Proofs.YtekckhepcdndcaaGreatDoor
open Go.AI Go.G
set_option maxRecDepth 20000
attribute [simp] Tryz.ntmps266 Tryz.results266
theorem zq9 (l:List G.Task)(S:List Int)(n:Int)(ht1:∀t∈l,1≤t.n∧t.n≤n)(hd1:(S++l.map Task.n).Nodup)(hl:l.length≤1000000):Ct Tryz.prog 266 [lst (l.map zd6),.own 0,int n] [] [(0,.map false [.int] false (zj8 S))] (bool true) [(0,.map false [.int] false (zj8 (S++l.map Task.n)))]:=by
 refine Ct.B Tryz.func266 mixed 9999 400 ?_;simp;refine LoopI.U mixed (l) (fun k=>[(1,.own 0),(2,int n),(9,lst (l.map zd6)),(10,int l.length),(11,int k.1)]) (fun k=>[(0,.map false [.int] false (zj8 (S++(l.take k.1).map Task.n)))]) 64 [] (by constructor<;>simp) ?_;rintro⟨k,hk1⟩ B hB;refine CI.run 9999 400 rfl ?_;simp;refine sBI (fun h=>?_) (fun h=>?_)
 ·have hk:k<(l).length:=by simpa using h
  obtain⟨x,hx,hr,hm,ht,hd⟩:=inL hk;have hw:=wr (k:=k) (by omega);simp only[h];simp[hr,hw];have hb:=ht1 x hm;have hL:x.n∉S++(l.take k).map Task.n:=qlz hd1 hr;have c1:¬x.n<1:=by omega
  have c2:¬n<x.n:=by omega
  have c3:zj8 (S++List.take k (List.map Task.n l)) [.int .i64 x.n]=none:=by rw[zij,←List.map_take,if_neg hL]
  simp[c1,c2,c3];refine hB _ ⟨k+1,by omega⟩ [] ?_ (by simp;omega);constructor<;>simp[hw,ht]
 ·have hkl:k=(l).length:=by simp at h;omega
  subst hkl;simp only[h];simp[List.take_length,List.drop_length];first| (refine⟨[],?_,?_,?_,?_,?_,?_,?_⟩<;>simp[nmF,inB];done)| (refine⟨by decide+kernel,?_⟩;refine⟨[],?_,?_,?_,?_,?_,?_,?_⟩<;>simp[nmF,inB])
attribute [simp] Tryz.ntmps265 Tryz.results265
theorem qv3 (a b:G.Task)(ha:1≤a.n∧a.n≤100000)(hb:1≤b.n∧b.n≤100000):Ct Tryz.prog 265 [st (zd6 a),st (zd6 b)] [] [] (int (a.n-b.n)) []:=by
 refine Ct.B Tryz.func265 mixed 9999 400 ?_;simp;have w1:IntKind.wrap .i64 (a.n-b.n)=a.n-b.n:=zab (by omega) (by omega);simp[w1];first|exact fin0 (by simp) rfl|exact zaa (by simp)
attribute [simp] Tryz.ntmps264 Tryz.results264
theorem qjs (l:List G.Task)(hl:l.length≤1000000)(hs:l.Pairwise fun a b=>a.n<b.n)(h:∀t∈l,1≤t.n∧t.n≤100000):Ct Tryz.prog 264 [lst (l.map zd6),.d (fnD 265)] [] [] (bool true) []:=by
 refine Ct.B Tryz.func264 mixed 9999 400 ?_;simp;have w0:IntKind.wrap .i64 ((l.length:Int)-1)=(l.length:Int)-1:=zab (by omega) (by omega);refine LoopI.inv mixed rfl (ι:={k:Nat//k≤l.length}) (fun k=>[(0,lst (l.map zd6)),(1,.d (fnD 265)),(5,int ((k.1:Int)-1))]) (fun k=>[]) 64 (fun k=>k.1) ⟨l.length,Nat.le_refl _⟩ [] (by constructor<;>simp[w0]) ?_;rintro⟨k,hk⟩ B hB;refine CI.run 9999 400 rfl ?_;simp;refine sBI (fun h1=>?_) (fun h1=>?_)<;>simp only[h1]<;>simp<;>(try simp only[nT,nF,dT,dF]at h1)
 ·obtain⟨j,rfl⟩:∃j,k=j+2:=⟨k-2,by omega⟩;have hk1:j+1<l.length:=by omega
  have hk2:j<l.length:=by omega
  have hp:=List.pairwise_iff_getElem.1 hs j (j+1) hk2 hk1 (by omega);have hx:=h _ (List.getElem_mem hk1);have hy:=h _ (List.getElem_mem hk2);have hr1:l[j+1]? =some l[j+1]:=List.getElem?_eq_getElem hk1;have hr2:l[j]? =some l[j]:=List.getElem?_eq_getElem hk2;generalize hgx:l[j+1]=x at hp hx hr1;generalize hgy:l[j]=y at hp hy hr2;have e1:(j:Int)+2-1=j+1:=by omega
  have e0:(1:Int)≤(j:Int)+2:=by omega
  have e2:(j:Int)+1<l.length:=by omega
  have w1:IntKind.wrap .i64 (j:Int)=j:=zab (by omega) (by omega);simp[e1,e0,e2,hr1,hr2,w1,hk1,hk2,hgx,hgy];refine CI.ff (FnOk.of (qv3 x y hx hy) Tryz.call265 rfl rfl) rfl rfl rfl 9999 ?_;simp;refine⟨by decide+kernel,?_⟩;have e3:¬x.n-y.n<0:=by omega
  simp[e3];refine hB _ ⟨j+1,by omega⟩ [] ?_ (by simp);constructor<;>simp[w1,e1]
 ·first|exact fin0 (by simp) rfl|exact zaa (by simp)
attribute [simp] Tryz.ntmps324 Tryz.results324
theorem qlo (l:List G.Task)(kf:D)(p:G.Task→Bool)(hf:∀x∈l,FnOk Tryz.prog (.d kf) [st (zd6 x)] (bool (p x)))(hl:l.length≤9223372036854775807):Ct Tryz.prog 324 [lst (l.map zd6),.d kf] [] [] (int (idxF p l)) []:=by
 refine Ct.B Tryz.func324 mixed 9999 400 ?_;simp;refine LoopI.inv mixed rfl (ι:={k:Nat//k≤(l).length∧(l.take k).all (fun x=>!p x)=true}) (fun k=>[(0,lst (l.map zd6)),(1,.d kf),(7,int l.length),(8,int k.1)]) (fun k=>[]) 64 (fun k=>(l).length-k.1) ⟨0,by omega,by simp⟩ [] (by constructor<;>simp) ?_;rintro⟨k,hk1,hi⟩ B hB;refine CI.run 9999 400 rfl ?_;simp;refine sBI (fun h=>?_) (fun h=>?_)
 ·have hk:k<(l).length:=by simpa using h
  obtain⟨r,hx,hr,hm,ht,hd⟩:=inL hk;have hw:=wr (k:=k) (by omega);simp only[h];simp[hr,hw];refine CI.ff (hf r hm) rfl rfl rfl 9999 ?_;simp;refine sBI (fun hp=>?_) (fun hp=>?_)<;>simp only[hp]<;>simp
  ·first|exact fin0 (by simp[zcr hi hr hp]) rfl|exact zaa (by simp[zcr hi hr hp])
  ·refine hB _ ⟨k+1,by omega,by simp[ht,hi,hp]⟩ [] ?_ (by simp;omega);constructor<;>simp[hw,ht,hp]
 ·have hkl:k=(l).length:=by simp at h;omega
  subst hkl;simp only[h];simp[List.take_length,List.drop_length];rw[List.take_length]at hi;first|exact fin0 (by simp[zbc (fun x hx=>by have:=List.all_eq_true.1 hi x hx;simpa using this)]) rfl|exact zaa (by simp[zbc (fun x hx=>by have:=List.all_eq_true.1 hi x hx;simpa using this)])
attribute [simp] Tryz.ntmps267 Tryz.results267
theorem qbj (l:List G.Task)(kf:D)(p:G.Task→Bool)(hf:∀x∈l,FnOk Tryz.prog (.d kf) [st (zd6 x)] (bool (p x)))(hl:l.length≤9223372036854775807):Ct Tryz.prog 267 [lst (l.map zd6),.d kf] [] [] (bool (l.any p)) []:=by
 refine Ct.B Tryz.func267 mixed 9999 400 ?_;simp;refine CI.p (qlo l kf p hf hl) Tryz.call324 9999 ?_;simp;rw[zgb];first|exact fin0 (by simp) rfl|exact zaa (by simp)
attribute [simp] Tryz.ntmps269 Tryz.results269
theorem qfm (t:G.Task):Ct Tryz.prog 269 [st (zd6 t)] [] [] (bool (zib t.r&&zjh t.r)) []:=by
 refine Ct.B Tryz.func269 mixed 9999 400 ?_;simp;refine CI.p (qfd t.r) Tryz.call271 9999 ?_;simp;refine sGI (fun h1=>?_) (fun h1=>?_)<;>simp only[h1]<;>simp
 ·refine CI.p (qfl t.r) Tryz.call161 9999 ?_;simp;first|exact fin0 (by simp[h1]) rfl|exact zaa (by simp[h1])
 ·first|exact fin0 (by simp[h1]) rfl|exact zaa (by simp[h1])
attribute [simp] Tryz.ntmps268 Tryz.results268
theorem qo1 (t:G.Task):Ct Tryz.prog 268 [st (zd6 t)] [] [] (bool (!(zib t.r&&zjh t.r))) []:=by
 refine Ct.B Tryz.func268 mixed 9999 400 ?_;simp;refine CI.p (qfm t) Tryz.call269 9999 ?_;simp;first|exact fin0 (by simp) rfl|exact zaa (by simp)
attribute [simp] Tryz.ntmps270 Tryz.results270
theorem qts (t:G.Task):Ct Tryz.prog 270 [st (zd6 t)] [] [] (bool (zjh t.r)) []:=by
 refine Ct.B Tryz.func270 mixed 9999 400 ?_;simp;refine CI.p (qfl t.r) Tryz.call161 9999 ?_;simp;first|exact fin0 (by simp) rfl|exact zaa (by simp)
attribute [simp] Tryz.ntmps205 Tryz.results205
theorem qcb (p:Pool)(h:OkPool p):Ct Tryz.prog 205 [st (zu6 p)] [] [] (bool true) []:=by
 refine Ct.B Tryz.func205 mixed 9999 400 ?_;simp;have c0:=h.n0;have c1:=h.n1;have c2:=h.lt;have c3:=h.ld;have c4:¬p.next<0:=by omega
 have c5:¬100000<p.next:=by omega
 have c6:¬(64:Int)<p.tasks.length:=by omega
 have c7:¬(1000:Int)<p.done.length:=by omega
 simp[c4,c5,c6,c7];refine CI.p (qjs p.tasks (by omega) h.up (fun t ht=>by have:=h.rt t ht;omega)) Tryz.call264 9999 ?_;simp;refine CI.cc [1472] (zq9 p.tasks [] p.next h.rt (by simpa using zsv h.up) (by omega)) Tryz.call266 9999 ?_ (ha:=by simp[zii]) (hk:=by simp[zii]);simp[zii];refine CI.cc [1472] (zq9 p.done (p.tasks.map Task.n) p.next h.rd (qgu h) (by omega)) Tryz.call266 9999 ?_;simp;refine CI.p (qbj p.tasks (fnD 268) (fun t=>!(zib t.r&&zjh t.r)) (fun t _=>FnOk.of (qo1 t) Tryz.call268 rfl rfl) (by omega)) Tryz.call267 9999 ?_;simp;have e1:p.tasks.any (fun t=>!zib t.r|| !zjh t.r)=false:=by
  rw[List.any_eq_false];intro t ht;have:=h.run t ht;simp[this.1,this.2]
 have e2:p.done.any (fun t=>zjh t.r)=false:=by
  rw[List.any_eq_false];intro t ht;have:=h.over t ht;simp[this]
 simp[e1];refine CI.p (qbj p.done (fnD 270) (fun t=>zjh t.r) (fun t _=>FnOk.of (qts t) Tryz.call270 rfl rfl) (by omega)) Tryz.call267 9999 ?_;simp;first|exact fin0 (by simp[e2]) rfl|exact zaa (by simp[e2])
attribute [simp] Tryz.ntmps157 Tryz.results157
theorem zop (p:Pool)(h:OkPool p):Ct Tryz.prog 157 [st (zu6 p)] [] [] (st (zu6 p)) []:=by
 refine Ct.B Tryz.func157 mixed 9999 400 ?_;simp;refine CI.p (qcb p h) Tryz.call205 9999 ?_;simp;first|exact fin0 (by simp) rfl|exact zaa (by simp)
attribute [simp] Tryz.ntmps158 Tryz.results158
theorem qde (x:G.Task)(l:List G.Task)(hl:l.length≤1000000):Ct Tryz.prog 158 [lst ((x::l).map zd6)] [] [] (.own 64) [(64,.grow 13 ((x::l).map zd6) 213)]:=by
 refine Ct.B Tryz.func158 mixed 9999 400 ?_;simp;refine⟨by omega,?_⟩;first| (refine⟨[(64,384)],?_,?_,?_,?_,?_,?_,?_⟩<;>simp[nmF,inB];done)| (refine⟨by decide+kernel,?_⟩;refine⟨[(64,384)],?_,?_,?_,?_,?_,?_,?_⟩<;>simp[nmF,inB])
theorem zy4 :Ct Tryz.prog 158 [lst []] [] [] (.own 64) [(64,.grow 13 [] 213)]:=by
 refine Ct.B Tryz.func158 mixed 2 400 ?_;simp;refine⟨?_,?_⟩
 ·refine CI.cutTo mixed (ι:=Unit) (fun _=>[(2,.d (.v (.slice none 0 0)))]) (fun _=>[]) 65 rfl (fun B hB=>?_) (fun _=>?_)
  ·refine CI.run 9999 400 rfl ?_;simp;refine hB _ () [] ?_;constructor<;>simp
  ·refine CI.nilOwn 2 13 213 rfl rfl ?_;refine CI.run 9999 400 rfl ?_;simp;first| (refine⟨[(64,65)],?_,?_,?_,?_,?_,?_,?_⟩<;>simp[nmF,inB];done)| (refine⟨by decide+kernel,?_⟩;refine⟨[(64,65)],?_,?_,?_,?_,?_,?_,?_⟩<;>simp[nmF,inB])
 ·skip
  first| (refine⟨[(64,384)],?_,?_,?_,?_,?_,?_,?_⟩<;>simp[nmF,inB];done)| (refine⟨by decide+kernel,?_⟩;refine⟨[(64,384)],?_,?_,?_,?_,?_,?_,?_⟩<;>simp[nmF,inB])
theorem zhq (l:List G.Task)(hl:l.length≤1000000):Ct Tryz.prog 158 [lst (l.map zd6)] [] [] (.own 64) [(64,.grow 13 (l.map zd6) 213)]:=by
 cases l with
 |nil=>exact zy4
 |cons x l=>exact qde x l (by simp at hl;omega)
theorem delT (l:List (List D))(k:Nat)(hk:k<l.length):Ct Tryz.prog 162 [.own 0,int k,int ((k:Int)+1)] [] [(0,.grow 13 l 213)] (lst (l.eraseIdx k)) []:=
 Ct.deleteT zy0 (by kernel_rfl) qot rfl rfl rfl (by decide) hk
attribute [simp] Tryz.ntmps118 Tryz.results118
theorem qpb (p:Pool)(a:G.Ask)(h:OkPool p):Ct Tryz.prog 118 [st (zu6 p),st (askC a)] [] [] (.tup [st (zu6 (zf7 p a).1),int (zf7 p a).2.1,int (zf7 p a).2.2]) []:=by
 refine Ct.B Tryz.func118 mixed 9999 400 ?_;simp;refine CI.p (zop p h) Tryz.call157 9999 ?_;simp;have c0:=h.n0;have c1:=h.n1;have c2:=h.lt;by_cases h1:64≤p.tasks.length
 ·have h1':(64:Int)≤p.tasks.length:=by omega
  simp[h1'];first|exact fin0 (by simp[zf7,h1]) rfl|exact zaa (by simp[zf7,h1])
 ·have h1':¬(64:Int)≤p.tasks.length:=by omega
  by_cases h2:p.next=100000
  ·simp[h1',h2];first|exact fin0 (by simp[zf7,h1,h2]) rfl|exact zaa (by simp[zf7,h1,h2])
  ·have w1:IntKind.wrap .i64 (p.next+1)=p.next+1:=zab (by omega) (by omega);simp[h1',h2,w1];refine CI.cc [] (zhq p.tasks (by omega)) Tryz.call158 9999 ?_;simp;refine CI.p (qns a) Tryz.call159 9999 ?_;simp;refine⟨by omega,?_⟩;refine⟨by decide+kernel,?_⟩;refine⟨by decide+kernel,?_⟩;first|exact fin0 (by simp[zf7,h1,h2,newR]) rfl|exact zaa (by simp[zf7,h1,h2,newR])
attribute [simp] Tryz.ntmps163 Tryz.results163
theorem qt7 (l:List G.Task)(t:G.Task)(hl:l.length≤1000000):Ct Tryz.prog 163 [lst (l.map zd6),st (zd6 t)] [] [] (lst ((zsp l t).map zd6)) []:=by
 refine Ct.B Tryz.func163 mixed 9999 400 ?_;simp;have w1:IntKind.wrap .i64 ((l.length:Int)-1000)=(l.length:Int)-1000:=zab (by omega) (by omega);have w2:IntKind.wrap .i64 ((l.length:Int)-1000+1)=(l.length:Int)-1000+1:=zab (by omega) (by omega);by_cases h1:l.length≤999
 ·have h2:¬(0:Int)<(l.length:Int)-1000+1:=by omega
  have h3:l.length-999=0:=by omega
  simp[w1,w2,h2];refine CI.cc [] (zhq l hl) Tryz.call158 9999 ?_;simp;refine⟨by omega,?_⟩;refine⟨by decide+kernel,?_⟩;first|exact fin0 (by simp[zsp,h3]) rfl|exact zaa (by simp[zsp,h3])
 ·obtain⟨m,h3⟩:∃m,l.length=m+999:=⟨l.length-999,by omega⟩;have h2:(0:Int)<(l.length:Int)-1000+1:=by omega
  have h4:(l.length:Int)-1000+1=(m:Int):=by omega
  have h5:0<m:=by omega
  have h6:(m:Int)≤l.length:=by omega
  have w3:IntKind.wrap .i64 (m:Int)=m:=zab (by omega) (by omega);have h7:l.length-999=m:=by omega
  have h8:l.drop m=l.drop (l.length-999):=by rw[h7]
  simp[w1,w3,h4,h5,h6];rw[←List.map_drop];refine CI.cc [] (zhq (l.drop m) (by simp;omega)) Tryz.call158 9999 ?_;simp;refine⟨⟨zyl m (by simp),by omega⟩,?_⟩;refine⟨by decide+kernel,?_⟩;first|exact fin0 (by simp[zsp,h7]) rfl|exact zaa (by simp[zsp,h7])
attribute [simp] Tryz.ntmps119 Tryz.results119
theorem qt5 (p:Pool)(s:Side)(draw:Int)(h:OkPool p)(ho:OkX s)(hs:SnP s.p)(ha:∀t∈p.tasks,(bs t.r.a.host).length≤1000000∧(bs t.r.a.path).length≤1000000):Ct Tryz.prog 119 [st (zu6 p),st (zdc s),int draw] [] [] (.tup [st (zu6 (zfn p s draw).1),st (zdc (zfn p s draw).2.1),lst ((zfn p s draw).2.2.1.map zai),int (zfn p s draw).2.2.2]) []:=by
 refine Ct.B Tryz.func119 mixed 9999 400 ?_;simp;refine CI.p (zop p h) Tryz.call157 9999 ?_;simp;have c2:=h.lt;have c3:=h.ld;by_cases h1:p.tasks=[]
 ·have e:zfn p s draw=(⟨p.next,[],p.done⟩,s,[],10):=by
   obtain⟨n,T,D⟩:=p;simp only at h1;subst h1;rfl
  rw[e];simp[h1];refine⟨by decide+kernel,?_⟩;first|exact fin0 (by simp) rfl|exact zaa (by simp)
 ·have hl:0<p.tasks.length:=List.length_pos_iff.2 h1;obtain⟨e1,e2⟩:=qgf p draw hl;have hr:p.tasks[pickAt p draw]? =some p.tasks[pickAt p draw]:=List.getElem?_eq_getElem e2;have hm:p.tasks[pickAt p draw]∈p.tasks:=List.getElem_mem e2;unfold zfn;generalize pickAt p draw=k at*;generalize hg:p.tasks[k]=t at*;rw[hr];dsimp only;simp[h1,e1,e2,hg];obtain⟨ha1,ha2⟩:=ha t hm;refine CI.p (qo6 t.r s ho hs ha1 ha2) Tryz.call160 9999 ?_;simp;generalize zfd t.r s=w;refine CI.cc [] (zhq p.tasks (by omega)) Tryz.call158 9999 ?_ (ha:=by simp[e2]) (hk:=by simp[e2]);simp[e2];refine CI.p (qfl w.r) Tryz.call161 9999 ?_;simp;cases h2:zjh w.r with
  |true=>
   simp[h2];refine⟨by decide+kernel,?_⟩;first|exact fin0 (by simp[h2]) rfl|exact zaa (by simp[h2])
  |false=>
   have w1:IntKind.wrap .i64 ((k:Int)+1)=(k:Int)+1:=zab (by omega) (by omega);simp[h2,w1];refine CI.cc [2880] (delT ((p.tasks.map zd6).set k (zd6 ⟨t.n,w.r⟩)) k (by simpa using e2)) Tryz.call162 9999 ?_;simp;refine CI.p (qt7 p.done ⟨t.n,w.r⟩ (by omega)) Tryz.call163 9999 ?_;simp;refine⟨by decide+kernel,?_⟩;first|exact fin0 (by simp[h2,zex,List.eraseIdx_set_eq]) rfl|exact zaa (by simp[h2,zex,List.eraseIdx_set_eq])
end Go.Proofs.YtekckhepcdndcaaGreatDoor
