/-
  LAYER 24: the walks of a mesh made, and of many steps; the laws' own helpers.
-/
import Derived.Test.YtekckhepcdndcaaGreatDoorWn
import Derived.Test.YtekckhepcdndcaaGreatDoorPq
import Derived.Test.YtekckhepcdndcaaGreatDoorWb
set_option linter.unusedSimpArgs false
set_option linter.unusedVariables false
namespace Go.Proofs.YtekckhepcdndcaaGreatDoor
open Go.AI Go.G
set_option maxRecDepth 20000
set_option maxHeartbeats 4000000
@[simp] theorem lenAll_mstep (l:List MStep):zbd (l.map mstepC) 11=True:=za4 (f:=mstepC) (n:=11) (fun _=>rfl) l
@[simp] theorem lenAll_mout (l:List MOut):zbd (l.map zam) 7=True:=za4 (f:=zam) (n:=7) (fun _=>rfl) l
def zc4 (l:List MStep):Bool:=l.all zkg&&decide (l.length≤60)
theorem zew {l:List MStep}{s:MStep}(hm:s∈l)(h:zkg s=false):zc4 l=false:=by
 have:l.all zkg=false:=by rw[List.all_eq_false];exact⟨s,hm,by simp[h]⟩
 simp[zc4,this]
attribute [simp] Tryz.ntmps30 Tryz.results30
theorem qvn (l:List MStep)(ha:∀s∈l,OkRs s.adds)(hl:l.length≤9223372036854775807):Ct Tryz.prog 30 [lst (l.map mstepC)] [] [] (bool (zc4 l)) []:=by
 refine Ct.B Tryz.func30 mixed 9999 400 ?_;simp;refine LoopI.inv mixed rfl (ι:={k:Nat//k≤(l).length∧(l.take k).all zkg=true}) (fun k=>[(0,lst (l.map mstepC)),(3,int k.1)]) (fun k=>[]) 64 (fun k=>(l).length-k.1) ⟨0,by omega,by simp⟩ [] (by constructor<;>simp) ?_;rintro⟨k,hk1,hi⟩ B hB;refine CI.run 9999 400 rfl ?_;simp;refine sBI (fun h=>?_) (fun h=>?_)
 ·have hk:k<(l).length:=by simpa using h
  obtain⟨s,hx,hr,hm,ht,hd⟩:=inL hk;have hw:=wr (k:=k) (by omega);simp only[h];simp[hr,hw];have ea:=zbh s.a.host;have eb:=zbh s.a.path;refine CI.p (qvo s.adds (ha s hm)) Tryz.call44 9999 ?_;simp;cases h1:fewL s.adds with
  |false=>
   have hn:zkg s=false:=by simp[zkg,h1]
   simp[h1];first|exact fin0 (by simp[zew hm hn]) rfl|exact zaa (by simp[zew hm hn])
  |true=>
   by_cases h2:s.gone.length≤80
   ·have h2':¬(80:Int)<s.gone.length:=by omega
    by_cases h3:(bs s.a.host).length≤100
    ·have h3':¬(100:Int)<(bs s.a.host).length:=by omega
     by_cases h4:(bs s.a.path).length≤100
     ·have h4':¬(100:Int)<(bs s.a.path).length:=by omega
      simp[hr,h1,h2',ea,eb,h3',h4'];refine hB _ ⟨k+1,by omega,by simp[ht,hi,zkg,h1,h2,h3,h4]⟩ [] ?_ (by simp;omega);constructor<;>simp[hw,ht,zkg,h1,h2,h3,h4]
     ·have hn:zkg s=false:=by simp[zkg,h4]
      have h4':(100:Int)<(bs s.a.path).length:=by omega
      simp[hr,h1,h2',ea,eb,h3',h4'];first|exact fin0 (by simp[zew hm hn]) rfl|exact zaa (by simp[zew hm hn])
    ·have hn:zkg s=false:=by simp[zkg,h3]
     have h3':(100:Int)<(bs s.a.host).length:=by omega
     simp[hr,h1,h2',ea,eb,h3'];first|exact fin0 (by simp[zew hm hn]) rfl|exact zaa (by simp[zew hm hn])
   ·have hn:zkg s=false:=by simp[zkg,h2]
    have h2':(80:Int)<s.gone.length:=by omega
    simp[hr,h1,h2'];first|exact fin0 (by simp[zew hm hn]) rfl|exact zaa (by simp[zew hm hn])
 ·have hkl:k=(l).length:=by simp at h;omega
  subst hkl;simp only[h];simp[List.take_length,List.drop_length];rw[List.take_length]at hi;have e60:((l.length:Int)≤60)=(l.length≤60):=propext (by omega);first|exact fin0 (by simp[zc4,hi,e60]) rfl|exact zaa (by simp[zc4,hi,e60])
attribute [simp] Tryz.ntmps7 Tryz.results7
theorem zjr (l:List MStep)(ha:∀s∈l,OkRs s.adds)(hl:l.length≤9223372036854775807):Ct Tryz.prog 7 [lst (l.map mstepC)] [] [] (bool (zc4 l)) []:=by
 refine Ct.B Tryz.func7 mixed 9999 400 ?_;simp;refine CI.p (qvn l ha hl) Tryz.call30 9999 ?_;simp;cases h1:zc4 l with
 |false=>
  simp[h1];first|exact fin0 (by simp[h1]) rfl|exact zaa (by simp[h1])
 |true=>
  have h2:(l.length:Int)≤60:=by simp[zc4]at h1;omega
  simp[h1,h2];first|exact fin0 (by simp[h1]) rfl|exact zaa (by simp[h1])
attribute [simp] Tryz.ntmps10 Tryz.results10
theorem zdv (l:List MStep)(hl:l.length≤1000000):Ct Tryz.prog 10 [lst (l.map mstepC)] [] [] (lst (l.map mstepC)) []:=by
 refine Ct.B Tryz.func10 mixed 9999 400 ?_;simp;refine LoopI.nilOwn 3 11 72 rfl ?_;refine LoopI.U mixed (l) (fun k=>[(0,lst (l.map mstepC)),(3,.own 64),(4,int k.1)]) (fun k=>[(64,.grow 11 ((l.take k.1).map mstepC) 72)]) 65 [] (by constructor<;>simp) ?_;rintro⟨k,hk1⟩ B hB;refine CI.run 9999 400 rfl ?_;simp;refine sBI (fun h=>?_) (fun h=>?_)
 ·have hk:k<(l).length:=by simpa using h
  obtain⟨x,hx,hr,hm,ht,hd⟩:=inL hk;have hw:=wr (k:=k) (by omega);simp only[h];simp[hr,hw];refine⟨by omega,?_⟩;refine⟨by decide+kernel,?_⟩;refine hB _ ⟨k+1,by omega⟩ [] ?_ (by simp;omega);constructor<;>simp[hw,ht]
 ·have hkl:k=(l).length:=by simp at h;omega
  subst hkl;simp only[h];simp[List.take_length,List.drop_length];first|exact fin0 (by simp) rfl|exact zaa (by simp)
end Go.Proofs.YtekckhepcdndcaaGreatDoor
namespace Go.Proofs.YtekckhepcdndcaaGreatDoor
open Go.AI Go.G
set_option maxRecDepth 20000
set_option maxHeartbeats 8000000
abbrev sidI (c:Cfg):Int:=if 1<if 4<c.sides then 4 else c.sides then if 4<c.sides then 4 else c.sides else 1
theorem zse {c:Cfg}{k:Nat}(h:zar c=k):sidI c=k:=by
 unfold zar at h;unfold sidI;split<;>split at* <;>omega
@[simp] def qn4 :Nat→List (List D)→List (Nat×Blk)
  |_,[]=>[]
  |j,n::l=>(j,.cells (n.map .d) 117)::qn4 (j+1) l
abbrev BK (M:G.Mesh):List (Nat×Blk):=(64,.cells [int M.c.sides,int M.c.cap,int M.c.limit,int M.c.max,int M.p.cap,lst (M.p.hist.map rsC),.own 65,int M.lost] 109)::(65,.grp (qak 66 (M.ns.map zb5)) 110)::qn4 66 (M.ns.map zb5)
attribute [simp] Tryz.ntmps26 Tryz.results26
theorem qqw (c:Cfg)(hk:zar c=1):Ct Tryz.prog 26 [st (cfgC c)] [] [] (.ptr 64 0) (BK ⟨c,newS c.cap,[zag c],0⟩):=by
 refine Ct.B Tryz.func26 mixed 9999 400 ?_;simp;have hs:=zse hk;refine CI.p (zrb c.cap) Tryz.call47 9999 ?_;simp;refine⟨by decide+kernel,?_⟩;simp only[hs];refine LoopI.rounds 2 ?_;refine RoundsI.step mixed rfl ?_;refine CI.run 9999 400 rfl ?_;simp;refine CI.p (zgy c.limit c.max) Tryz.call48 9999 ?_;simp;refine CI.p (zb8 0 c.max) Tryz.call49 9999 ?_;simp;refine⟨by decide+kernel,?_⟩;refine RoundsI.step mixed rfl ?_;refine CI.run 6 400 rfl ?_;simp;refine CI.s (tm:=[(3,.ptr 512 0)]) (mm:=[(512,.cells [int c.sides,int c.cap,int c.limit,int c.max,int (newS c.cap).cap,lst ((newS c.cap).hist.map rsC),.own 2048,int 0] 109),(2048,.grp [1920] 110),(1920,.cells ((zb5 (zag c)).map .d) 117)]) (nx:=2112) [] [] (by constructor<;>simp[zag,zPool]) ?_;refine CI.run 9999 400 rfl ?_;simp;first| (refine⟨[(64,512),(65,2048),(66,1920)],?_,?_,?_,?_,?_,?_,?_⟩<;>simp[nmF,inB];done)| (refine⟨by decide+kernel,?_⟩;refine⟨[(64,512),(65,2048),(66,1920)],?_,?_,?_,?_,?_,?_,?_⟩<;>simp[nmF,inB])
theorem qqv (c:Cfg)(hk:zar c=2):Ct Tryz.prog 26 [st (cfgC c)] [] [] (.ptr 64 0) (BK ⟨c,newS c.cap,[zag c,zag c],0⟩):=by
 refine Ct.B Tryz.func26 mixed 9999 400 ?_;simp;have hs:=zse hk;refine CI.p (zrb c.cap) Tryz.call47 9999 ?_;simp;refine⟨by decide+kernel,?_⟩;simp only[hs];refine LoopI.rounds 3 ?_;refine RoundsI.step mixed rfl ?_;refine CI.run 9999 400 rfl ?_;simp;refine CI.p (zgy c.limit c.max) Tryz.call48 9999 ?_;simp;refine CI.p (zb8 0 c.max) Tryz.call49 9999 ?_;simp;refine⟨by decide+kernel,?_⟩;refine RoundsI.step mixed rfl ?_;refine CI.run 9999 400 rfl ?_;simp;refine CI.p (zgy c.limit c.max) Tryz.call48 9999 ?_;simp;refine CI.p (zb8 0 c.max) Tryz.call49 9999 ?_;simp;refine⟨by decide+kernel,?_⟩;refine RoundsI.step mixed rfl ?_;refine CI.run 6 400 rfl ?_;simp;refine CI.s (tm:=[(3,.ptr 512 0)]) (mm:=[(512,.cells [int c.sides,int c.cap,int c.limit,int c.max,int (newS c.cap).cap,lst ((newS c.cap).hist.map rsC),.own 3520,int 0] 109),(3520,.grp [1920,3392] 110),(1920,.cells ((zb5 (zag c)).map .d) 117),(3392,.cells ((zb5 (zag c)).map .d) 117)]) (nx:=3584) [] [] (by constructor<;>simp[zag,zPool]) ?_;refine CI.run 9999 400 rfl ?_;simp;first| (refine⟨[(64,512),(65,3520),(66,1920),(67,3392)],?_,?_,?_,?_,?_,?_,?_⟩<;>simp[nmF,inB];done)| (refine⟨by decide+kernel,?_⟩;refine⟨[(64,512),(65,3520),(66,1920),(67,3392)],?_,?_,?_,?_,?_,?_,?_⟩<;>simp[nmF,inB])
theorem qqu (c:Cfg)(hk:zar c=3):Ct Tryz.prog 26 [st (cfgC c)] [] [] (.ptr 64 0) (BK ⟨c,newS c.cap,[zag c,zag c,zag c],0⟩):=by
 refine Ct.B Tryz.func26 mixed 9999 400 ?_;simp;have hs:=zse hk;refine CI.p (zrb c.cap) Tryz.call47 9999 ?_;simp;refine⟨by decide+kernel,?_⟩;simp only[hs];refine LoopI.rounds 4 ?_;refine RoundsI.step mixed rfl ?_;refine CI.run 9999 400 rfl ?_;simp;refine CI.p (zgy c.limit c.max) Tryz.call48 9999 ?_;simp;refine CI.p (zb8 0 c.max) Tryz.call49 9999 ?_;simp;refine⟨by decide+kernel,?_⟩;refine RoundsI.step mixed rfl ?_;refine CI.run 9999 400 rfl ?_;simp;refine CI.p (zgy c.limit c.max) Tryz.call48 9999 ?_;simp;refine CI.p (zb8 0 c.max) Tryz.call49 9999 ?_;simp;refine⟨by decide+kernel,?_⟩;refine RoundsI.step mixed rfl ?_;refine CI.run 9999 400 rfl ?_;simp;refine CI.p (zgy c.limit c.max) Tryz.call48 9999 ?_;simp;refine CI.p (zb8 0 c.max) Tryz.call49 9999 ?_;simp;refine⟨by decide+kernel,?_⟩;refine RoundsI.step mixed rfl ?_;refine CI.run 6 400 rfl ?_;simp;refine CI.s (tm:=[(3,.ptr 512 0)]) (mm:=[(512,.cells [int c.sides,int c.cap,int c.limit,int c.max,int (newS c.cap).cap,lst ((newS c.cap).hist.map rsC),.own 4992,int 0] 109),(4992,.grp [1920,3392,4864] 110),(1920,.cells ((zb5 (zag c)).map .d) 117),(3392,.cells ((zb5 (zag c)).map .d) 117),(4864,.cells ((zb5 (zag c)).map .d) 117)]) (nx:=5056) [] [] (by constructor<;>simp[zag,zPool]) ?_;refine CI.run 9999 400 rfl ?_;simp;first| (refine⟨[(64,512),(65,4992),(66,1920),(67,3392),(68,4864)],?_,?_,?_,?_,?_,?_,?_⟩<;>simp[nmF,inB];done)| (refine⟨by decide+kernel,?_⟩;refine⟨[(64,512),(65,4992),(66,1920),(67,3392),(68,4864)],?_,?_,?_,?_,?_,?_,?_⟩<;>simp[nmF,inB])
theorem qqt (c:Cfg)(hk:zar c=4):Ct Tryz.prog 26 [st (cfgC c)] [] [] (.ptr 64 0) (BK ⟨c,newS c.cap,[zag c,zag c,zag c,zag c],0⟩):=by
 refine Ct.B Tryz.func26 mixed 9999 400 ?_;simp;have hs:=zse hk;refine CI.p (zrb c.cap) Tryz.call47 9999 ?_;simp;refine⟨by decide+kernel,?_⟩;simp only[hs];refine LoopI.rounds 5 ?_;refine RoundsI.step mixed rfl ?_;refine CI.run 9999 400 rfl ?_;simp;refine CI.p (zgy c.limit c.max) Tryz.call48 9999 ?_;simp;refine CI.p (zb8 0 c.max) Tryz.call49 9999 ?_;simp;refine⟨by decide+kernel,?_⟩;refine RoundsI.step mixed rfl ?_;refine CI.run 9999 400 rfl ?_;simp;refine CI.p (zgy c.limit c.max) Tryz.call48 9999 ?_;simp;refine CI.p (zb8 0 c.max) Tryz.call49 9999 ?_;simp;refine⟨by decide+kernel,?_⟩;refine RoundsI.step mixed rfl ?_;refine CI.run 9999 400 rfl ?_;simp;refine CI.p (zgy c.limit c.max) Tryz.call48 9999 ?_;simp;refine CI.p (zb8 0 c.max) Tryz.call49 9999 ?_;simp;refine⟨by decide+kernel,?_⟩;refine RoundsI.step mixed rfl ?_;refine CI.run 9999 400 rfl ?_;simp;refine CI.p (zgy c.limit c.max) Tryz.call48 9999 ?_;simp;refine CI.p (zb8 0 c.max) Tryz.call49 9999 ?_;simp;refine⟨by decide+kernel,?_⟩;refine RoundsI.step mixed rfl ?_;refine CI.run 6 400 rfl ?_;simp;refine CI.s (tm:=[(3,.ptr 512 0)]) (mm:=[(512,.cells [int c.sides,int c.cap,int c.limit,int c.max,int (newS c.cap).cap,lst ((newS c.cap).hist.map rsC),.own 6464,int 0] 109),(6464,.grp [1920,3392,4864,6336] 110),(1920,.cells ((zb5 (zag c)).map .d) 117),(3392,.cells ((zb5 (zag c)).map .d) 117),(4864,.cells ((zb5 (zag c)).map .d) 117),(6336,.cells ((zb5 (zag c)).map .d) 117)]) (nx:=6528) [] [] (by constructor<;>simp[zag,zPool]) ?_;refine CI.run 9999 400 rfl ?_;simp;first| (refine⟨[(64,512),(65,6464),(66,1920),(67,3392),(68,4864),(69,6336)],?_,?_,?_,?_,?_,?_,?_⟩<;>simp[nmF,inB];done)| (refine⟨by decide+kernel,?_⟩;refine⟨[(64,512),(65,6464),(66,1920),(67,3392),(68,4864),(69,6336)],?_,?_,?_,?_,?_,?_,?_⟩<;>simp[nmF,inB])
end Go.Proofs.YtekckhepcdndcaaGreatDoor
namespace Go.Proofs.YtekckhepcdndcaaGreatDoor
open Go.AI Go.G
set_option maxRecDepth 20000
set_option maxHeartbeats 8000000
@[simp] theorem qch :∀(l:List D) (ys:List AV),pairA.pairL (l.map .d) ys=[]
  |[],ys=>by cases ys<;>rfl
  |x::l,[]=>rfl
  |x::l,y::ys=>by simp only[List.map_cons,pairA.pairL,qch l ys,List.append_nil];cases y<;>simp[pairA]
@[simp] theorem prA_mapd (kp:Nat→Bool)(mm:Nat→Option Blk)(n:Nat):prA kp mm n∘AV.d=AV.d:=by funext x;cases n<;>simp[prA]
@[simp] theorem leL_refl (l:List AV):leA.leL l l=True:=eq_true (zn2 l)
abbrev BD (b:Nat)(M:G.Mesh)(ks:List (List D)):List (Nat×Blk):=(b,.cells [int M.c.sides,int M.c.cap,int M.c.limit,int M.c.max,int M.p.cap,lst (M.p.hist.map rsC),.own (b+1),int M.lost] 109)::(b+1,.grp (qak (b+2) ks) 110)::qiw (b+2) ks
theorem qq0 (c:Cfg)(hk:zar c=1):Ct Tryz.prog 26 [st (cfgC c)] [] [] (.ptr 64 0) (BD 64 (newM c) [ndC (newM c) 0]):=by
 have e:newM c=⟨c,newS c.cap,[zag c],0⟩:=by unfold newM;rw[hk];rfl
 rw[e];exact qqw c hk
theorem zzp (M:G.Mesh)(s:MStep)(B:Int)(hk:M.ns.length=1)(hM:OkM M B)(hB:B≤100000000)(hs:OkSt s):CtJ errG Tryz.prog 16 [.ptr 0 0,st (mstepC s)] [] (BC M.c M.p M.lost [ndC M 0]) (st (zam (zas M s).2)) (BC (zas M s).1.c (zas M s).1.p (zas M s).1.lost [ndC (zas M s).1 0]):=by
 have h:=zug M s B hM hB hs;rw[BM,BM,zjp hk,zjp ((stepM_len hM s).trans hk)]at h;exact h
attribute [simp] Tryz.ntmps8 Tryz.results8
theorem zx5 (c:Cfg)(l:List MStep)(hk:zar c=1)(hl:l.length≤1000)(hs:∀s∈l,OkSt s):CtJ errG Tryz.prog 8 [st (cfgC c),lst (l.map mstepC)] [] [] (.tup [.ptr 64 0,.own 127]) (BD 64 (zad (newM c) l).1 [ndC (zad (newM c) l).1 0]++[(127,.grow 7 ((zad (newM c) l).2.map zam) 67)]):=by
 refine CtJ.B errK Tryz.func8 mixed 9999 400 ?_;simp;have hn:(newM c).ns.length=1:=by simp[newM,hk]
 refine CI.cc [] (qq0 c hk) Tryz.call26 9999 ?_;simp;refine LoopI.nilOwn 7 7 67 rfl ?_;refine LoopI.U mixed (l) (fun k=>[(6,.ptr 320 0),(7,.own 704),(12,lst (l.map mstepC)),(13,int l.length),(14,int k.1)]) (fun k=>BD 320 (zad (newM c) (l.take k.1)).1 [ndC (zad (newM c) (l.take k.1)).1 0]++[(704,.grow 7 ((zad (newM c) (l.take k.1)).2.map zam) 67)]) 705 [] (by constructor<;>simp[zad]) ?_;rintro⟨k,hk1⟩ B hB;refine CI.run 9999 400 rfl ?_;simp[zad];refine sBI (fun h=>?_) (fun h=>?_)
 ·have hk:k<(l).length:=by simpa using h
  obtain⟨x,hx,hr,hm,ht,hd⟩:=inL hk;have hw:=wr (k:=k) (by omega);simp only[h];simp[hr,hw];have q:=zbb (M:=newM c) (l.take k) (OkM.new c) (fun s hm=>hs s (List.mem_of_mem_take hm));have hq:=zbi (l.take k) (newM c);have hq':(l.take k).length≤1000:=by simp;omega
  generalize hM:zad (newM c) (l.take k)=Q at q hq⊢;obtain⟨M,os⟩:=Q;simp only at q hq⊢;refine CI.j [320,321,322] (zzp M x _ (q.2.trans hn) q.1 (by omega) (hs x hm)) Tryz.call16 9999 ?_;simp;refine⟨by omega,?_⟩;refine hB _ ⟨k+1,by omega⟩ [] ?_ (by simp;omega);constructor<;>simp[hw,ht,zb7,hM]
 ·have hkl:k=(l).length:=by simp at h;omega
  subst hkl;simp only[h];simp[List.take_length,List.drop_length];first| (refine⟨[(64,320),(65,321),(66,322),(127,704)],?_,?_,?_,?_,?_,?_,?_⟩<;>simp[nmF,inB];done)| (refine⟨by decide+kernel,?_⟩;refine⟨[(64,320),(65,321),(66,322),(127,704)],?_,?_,?_,?_,?_,?_,?_⟩<;>simp[nmF,inB])
theorem qqz (c:Cfg)(hk:zar c=2):Ct Tryz.prog 26 [st (cfgC c)] [] [] (.ptr 64 0) (BD 64 (newM c) [ndC (newM c) 0,ndC (newM c) 1]):=by
 have e:newM c=⟨c,newS c.cap,[zag c,zag c],0⟩:=by unfold newM;rw[hk];rfl
 rw[e];exact qqv c hk
theorem zzo (M:G.Mesh)(s:MStep)(B:Int)(hk:M.ns.length=2)(hM:OkM M B)(hB:B≤100000000)(hs:OkSt s):CtJ errG Tryz.prog 16 [.ptr 0 0,st (mstepC s)] [] (BC M.c M.p M.lost [ndC M 0,ndC M 1]) (st (zam (zas M s).2)) (BC (zas M s).1.c (zas M s).1.p (zas M s).1.lost [ndC (zas M s).1 0,ndC (zas M s).1 1]):=by
 have h:=zug M s B hM hB hs;rw[BM,BM,zjp hk,zjp ((stepM_len hM s).trans hk)]at h;exact h
theorem zx4 (c:Cfg)(l:List MStep)(hk:zar c=2)(hl:l.length≤1000)(hs:∀s∈l,OkSt s):CtJ errG Tryz.prog 8 [st (cfgC c),lst (l.map mstepC)] [] [] (.tup [.ptr 64 0,.own 127]) (BD 64 (zad (newM c) l).1 [ndC (zad (newM c) l).1 0,ndC (zad (newM c) l).1 1]++[(127,.grow 7 ((zad (newM c) l).2.map zam) 67)]):=by
 refine CtJ.B errK Tryz.func8 mixed 9999 400 ?_;simp;have hn:(newM c).ns.length=2:=by simp[newM,hk]
 refine CI.cc [] (qqz c hk) Tryz.call26 9999 ?_;simp;refine LoopI.nilOwn 7 7 67 rfl ?_;refine LoopI.U mixed (l) (fun k=>[(6,.ptr 320 0),(7,.own 704),(12,lst (l.map mstepC)),(13,int l.length),(14,int k.1)]) (fun k=>BD 320 (zad (newM c) (l.take k.1)).1 [ndC (zad (newM c) (l.take k.1)).1 0,ndC (zad (newM c) (l.take k.1)).1 1]++[(704,.grow 7 ((zad (newM c) (l.take k.1)).2.map zam) 67)]) 705 [] (by constructor<;>simp[zad]) ?_;rintro⟨k,hk1⟩ B hB;refine CI.run 9999 400 rfl ?_;simp[zad];refine sBI (fun h=>?_) (fun h=>?_)
 ·have hk:k<(l).length:=by simpa using h
  obtain⟨x,hx,hr,hm,ht,hd⟩:=inL hk;have hw:=wr (k:=k) (by omega);simp only[h];simp[hr,hw];have q:=zbb (M:=newM c) (l.take k) (OkM.new c) (fun s hm=>hs s (List.mem_of_mem_take hm));have hq:=zbi (l.take k) (newM c);have hq':(l.take k).length≤1000:=by simp;omega
  generalize hM:zad (newM c) (l.take k)=Q at q hq⊢;obtain⟨M,os⟩:=Q;simp only at q hq⊢;refine CI.j [320,321,322,323] (zzo M x _ (q.2.trans hn) q.1 (by omega) (hs x hm)) Tryz.call16 9999 ?_;simp;refine⟨by omega,?_⟩;refine hB _ ⟨k+1,by omega⟩ [] ?_ (by simp;omega);constructor<;>simp[hw,ht,zb7,hM]
 ·have hkl:k=(l).length:=by simp at h;omega
  subst hkl;simp only[h];simp[List.take_length,List.drop_length];first| (refine⟨[(64,320),(65,321),(66,322),(67,323),(127,704)],?_,?_,?_,?_,?_,?_,?_⟩<;>simp[nmF,inB];done)| (refine⟨by decide+kernel,?_⟩;refine⟨[(64,320),(65,321),(66,322),(67,323),(127,704)],?_,?_,?_,?_,?_,?_,?_⟩<;>simp[nmF,inB])
theorem qqy (c:Cfg)(hk:zar c=3):Ct Tryz.prog 26 [st (cfgC c)] [] [] (.ptr 64 0) (BD 64 (newM c) [ndC (newM c) 0,ndC (newM c) 1,ndC (newM c) 2]):=by
 have e:newM c=⟨c,newS c.cap,[zag c,zag c,zag c],0⟩:=by unfold newM;rw[hk];rfl
 rw[e];exact qqu c hk
theorem zzn (M:G.Mesh)(s:MStep)(B:Int)(hk:M.ns.length=3)(hM:OkM M B)(hB:B≤100000000)(hs:OkSt s):CtJ errG Tryz.prog 16 [.ptr 0 0,st (mstepC s)] [] (BC M.c M.p M.lost [ndC M 0,ndC M 1,ndC M 2]) (st (zam (zas M s).2)) (BC (zas M s).1.c (zas M s).1.p (zas M s).1.lost [ndC (zas M s).1 0,ndC (zas M s).1 1,ndC (zas M s).1 2]):=by
 have h:=zug M s B hM hB hs;rw[BM,BM,zjp hk,zjp ((stepM_len hM s).trans hk)]at h;exact h
theorem zx3 (c:Cfg)(l:List MStep)(hk:zar c=3)(hl:l.length≤1000)(hs:∀s∈l,OkSt s):CtJ errG Tryz.prog 8 [st (cfgC c),lst (l.map mstepC)] [] [] (.tup [.ptr 64 0,.own 127]) (BD 64 (zad (newM c) l).1 [ndC (zad (newM c) l).1 0,ndC (zad (newM c) l).1 1,ndC (zad (newM c) l).1 2]++[(127,.grow 7 ((zad (newM c) l).2.map zam) 67)]):=by
 refine CtJ.B errK Tryz.func8 mixed 9999 400 ?_;simp;have hn:(newM c).ns.length=3:=by simp[newM,hk]
 refine CI.cc [] (qqy c hk) Tryz.call26 9999 ?_;simp;refine LoopI.nilOwn 7 7 67 rfl ?_;refine LoopI.U mixed (l) (fun k=>[(6,.ptr 320 0),(7,.own 704),(12,lst (l.map mstepC)),(13,int l.length),(14,int k.1)]) (fun k=>BD 320 (zad (newM c) (l.take k.1)).1 [ndC (zad (newM c) (l.take k.1)).1 0,ndC (zad (newM c) (l.take k.1)).1 1,ndC (zad (newM c) (l.take k.1)).1 2]++[(704,.grow 7 ((zad (newM c) (l.take k.1)).2.map zam) 67)]) 705 [] (by constructor<;>simp[zad]) ?_;rintro⟨k,hk1⟩ B hB;refine CI.run 9999 400 rfl ?_;simp[zad];refine sBI (fun h=>?_) (fun h=>?_)
 ·have hk:k<(l).length:=by simpa using h
  obtain⟨x,hx,hr,hm,ht,hd⟩:=inL hk;have hw:=wr (k:=k) (by omega);simp only[h];simp[hr,hw];have q:=zbb (M:=newM c) (l.take k) (OkM.new c) (fun s hm=>hs s (List.mem_of_mem_take hm));have hq:=zbi (l.take k) (newM c);have hq':(l.take k).length≤1000:=by simp;omega
  generalize hM:zad (newM c) (l.take k)=Q at q hq⊢;obtain⟨M,os⟩:=Q;simp only at q hq⊢;refine CI.j [320,321,322,323,324] (zzn M x _ (q.2.trans hn) q.1 (by omega) (hs x hm)) Tryz.call16 9999 ?_;simp;refine⟨by omega,?_⟩;refine hB _ ⟨k+1,by omega⟩ [] ?_ (by simp;omega);constructor<;>simp[hw,ht,zb7,hM]
 ·have hkl:k=(l).length:=by simp at h;omega
  subst hkl;simp only[h];simp[List.take_length,List.drop_length];first| (refine⟨[(64,320),(65,321),(66,322),(67,323),(68,324),(127,704)],?_,?_,?_,?_,?_,?_,?_⟩<;>simp[nmF,inB];done)| (refine⟨by decide+kernel,?_⟩;refine⟨[(64,320),(65,321),(66,322),(67,323),(68,324),(127,704)],?_,?_,?_,?_,?_,?_,?_⟩<;>simp[nmF,inB])
theorem qqx (c:Cfg)(hk:zar c=4):Ct Tryz.prog 26 [st (cfgC c)] [] [] (.ptr 64 0) (BD 64 (newM c) [ndC (newM c) 0,ndC (newM c) 1,ndC (newM c) 2,ndC (newM c) 3]):=by
 have e:newM c=⟨c,newS c.cap,[zag c,zag c,zag c,zag c],0⟩:=by unfold newM;rw[hk];rfl
 rw[e];exact qqt c hk
theorem zzm (M:G.Mesh)(s:MStep)(B:Int)(hk:M.ns.length=4)(hM:OkM M B)(hB:B≤100000000)(hs:OkSt s):CtJ errG Tryz.prog 16 [.ptr 0 0,st (mstepC s)] [] (BC M.c M.p M.lost [ndC M 0,ndC M 1,ndC M 2,ndC M 3]) (st (zam (zas M s).2)) (BC (zas M s).1.c (zas M s).1.p (zas M s).1.lost [ndC (zas M s).1 0,ndC (zas M s).1 1,ndC (zas M s).1 2,ndC (zas M s).1 3]):=by
 have h:=zug M s B hM hB hs;rw[BM,BM,zjp hk,zjp ((stepM_len hM s).trans hk)]at h;exact h
theorem zx2 (c:Cfg)(l:List MStep)(hk:zar c=4)(hl:l.length≤1000)(hs:∀s∈l,OkSt s):CtJ errG Tryz.prog 8 [st (cfgC c),lst (l.map mstepC)] [] [] (.tup [.ptr 64 0,.own 127]) (BD 64 (zad (newM c) l).1 [ndC (zad (newM c) l).1 0,ndC (zad (newM c) l).1 1,ndC (zad (newM c) l).1 2,ndC (zad (newM c) l).1 3]++[(127,.grow 7 ((zad (newM c) l).2.map zam) 67)]):=by
 refine CtJ.B errK Tryz.func8 mixed 9999 400 ?_;simp;have hn:(newM c).ns.length=4:=by simp[newM,hk]
 refine CI.cc [] (qqx c hk) Tryz.call26 9999 ?_;simp;refine LoopI.nilOwn 7 7 67 rfl ?_;refine LoopI.U mixed (l) (fun k=>[(6,.ptr 320 0),(7,.own 704),(12,lst (l.map mstepC)),(13,int l.length),(14,int k.1)]) (fun k=>BD 320 (zad (newM c) (l.take k.1)).1 [ndC (zad (newM c) (l.take k.1)).1 0,ndC (zad (newM c) (l.take k.1)).1 1,ndC (zad (newM c) (l.take k.1)).1 2,ndC (zad (newM c) (l.take k.1)).1 3]++[(704,.grow 7 ((zad (newM c) (l.take k.1)).2.map zam) 67)]) 705 [] (by constructor<;>simp[zad]) ?_;rintro⟨k,hk1⟩ B hB;refine CI.run 9999 400 rfl ?_;simp[zad];refine sBI (fun h=>?_) (fun h=>?_)
 ·have hk:k<(l).length:=by simpa using h
  obtain⟨x,hx,hr,hm,ht,hd⟩:=inL hk;have hw:=wr (k:=k) (by omega);simp only[h];simp[hr,hw];have q:=zbb (M:=newM c) (l.take k) (OkM.new c) (fun s hm=>hs s (List.mem_of_mem_take hm));have hq:=zbi (l.take k) (newM c);have hq':(l.take k).length≤1000:=by simp;omega
  generalize hM:zad (newM c) (l.take k)=Q at q hq⊢;obtain⟨M,os⟩:=Q;simp only at q hq⊢;refine CI.j [320,321,322,323,324,325] (zzm M x _ (q.2.trans hn) q.1 (by omega) (hs x hm)) Tryz.call16 9999 ?_;simp;refine⟨by omega,?_⟩;refine hB _ ⟨k+1,by omega⟩ [] ?_ (by simp;omega);constructor<;>simp[hw,ht,zb7,hM]
 ·have hkl:k=(l).length:=by simp at h;omega
  subst hkl;simp only[h];simp[List.take_length,List.drop_length];first| (refine⟨[(64,320),(65,321),(66,322),(67,323),(68,324),(69,325),(127,704)],?_,?_,?_,?_,?_,?_,?_⟩<;>simp[nmF,inB];done)| (refine⟨by decide+kernel,?_⟩;refine⟨[(64,320),(65,321),(66,322),(67,323),(68,324),(69,325),(127,704)],?_,?_,?_,?_,?_,?_,?_⟩<;>simp[nmF,inB])
theorem zxt (c:Cfg):zar c=1∨zar c=2∨zar c=3∨zar c=4:=by unfold zar;omega
theorem qnh (c:Cfg)(l:List MStep)(hl:l.length≤1000)(hs:∀s∈l,OkSt s):CtJ errG Tryz.prog 8 [st (cfgC c),lst (l.map mstepC)] [] [] (.tup [.ptr 64 0,.own 127]) (BD 64 (zad (newM c) l).1 (ndL (zad (newM c) l).1 0 (zar c))++[(127,.grow 7 ((zad (newM c) l).2.map zam) 67)]):=by
 rcases zxt c with e|e|e|e<;>rw[e]
 ·exact zx5 c l e hl hs
 ·exact zx4 c l e hl hs
 ·exact zx3 c l e hl hs
 ·exact zx2 c l e hl hs
end Go.Proofs.YtekckhepcdndcaaGreatDoor
namespace Go.Proofs.YtekckhepcdndcaaGreatDoor
open Go.AI Go.G
set_option maxRecDepth 20000
set_option maxHeartbeats 4000000
attribute [simp] Tryz.ntmps9 Tryz.results9
theorem zel (c:Cfg):Ct Tryz.prog 9 [st (cfgC c)] [] [] (st (cfgC c)) []:=by
 refine Ct.B Tryz.func9 mixed 9999 400 ?_;simp;first|exact fin0 (by simp) rfl|exact zaa (by simp)
attribute [simp] Tryz.ntmps20 Tryz.results20
theorem zva (o:MOut):Ct Tryz.prog 20 [st (zam o)] [] [] (st (zam o)) []:=by
 refine Ct.B Tryz.func20 mixed 9999 400 ?_;simp;first|exact fin0 (by simp) rfl|exact zaa (by simp)
attribute [simp] Tryz.ntmps43 Tryz.results43
theorem qu7 (l:List Int)(hl:l.length≤1000000000):Ct Tryz.prog 43 [lst (l.map intC),lst (l.map intC)] [] [] (bool true) []:=by
 refine Ct.B Tryz.func43 mixed 9999 400 ?_;simp;refine LoopI.U mixed (l) (fun k=>[(0,lst (l.map intC)),(1,lst (l.map intC)),(5,int k.1)]) (fun k=>[]) 64 [] (by constructor<;>simp) ?_;rintro⟨k,hk1⟩ B hB;refine CI.run 9999 400 rfl ?_;simp;refine sBI (fun h=>?_) (fun h=>?_)
 ·have hk:k<(l).length:=by simpa using h
  obtain⟨x,hx,hr,hm,ht,hd⟩:=inL hk;have hw:=wr (k:=k) (by omega);simp only[h];simp[hr,hw];refine⟨by decide+kernel,?_⟩;refine hB _ ⟨k+1,by omega⟩ [] ?_ (by simp;omega);constructor<;>simp[hw,ht]
 ·have hkl:k=(l).length:=by simp at h;omega
  subst hkl;simp only[h];simp[List.take_length,List.drop_length];first|exact fin0 (by simp) rfl|exact zaa (by simp)
attribute [simp] Tryz.ntmps19 Tryz.results19
theorem znz (o:MOut)(hl:o.l.length≤1000000000)(hk:o.keys.length≤1000000000):Ct Tryz.prog 19 [st (zam o),st (zam o)] [] [] (bool true) []:=by
 refine Ct.B Tryz.func19 mixed 9999 400 ?_;simp;refine CI.p (qll o.keys o.keys (by omega)) Tryz.call42 9999 ?_;simp;refine CI.p (qu7 o.l hl) Tryz.call43 9999 ?_;simp;first|exact fin0 (by simp) rfl|exact zaa (by simp)
attribute [simp] Tryz.ntmps17 Tryz.results17 Tryz.ntmps18 Tryz.results18
theorem zna (c:Cfg)(p:Store)(lost:Int)(ks:List (List D))(h1:1≤ks.length)(h4:ks.length≤4):Ct Tryz.prog 17 [.ptr 0 0] (BC c p lost ks) [] (int lost) []:=by
 rcases four h1 h4 with⟨a,e⟩|⟨a,b,e⟩|⟨a,b,d,e⟩|⟨a,b,d,f,e⟩
 all_goals
  subst e;refine Ct.B Tryz.func17 mixed 9999 400 ?_;simp;first| (refine⟨[],?_,?_,?_,?_,?_,?_,?_⟩<;>simp[nmF,inB];done)| (refine⟨by decide+kernel,?_⟩;refine⟨[],?_,?_,?_,?_,?_,?_,?_⟩<;>simp[nmF,inB])
theorem zhc (c:Cfg)(p:Store)(lost:Int)(ks:List (List D))(h1:1≤ks.length)(h4:ks.length≤4):Ct Tryz.prog 18 [.ptr 0 0] (BC c p lost ks) [] (st (zbf p)) []:=by
 rcases four h1 h4 with⟨a,e⟩|⟨a,b,e⟩|⟨a,b,d,e⟩|⟨a,b,d,f,e⟩
 all_goals
  subst e;refine Ct.B Tryz.func18 mixed 9999 400 ?_;simp;first| (refine⟨[],?_,?_,?_,?_,?_,?_,?_⟩<;>simp[nmF,inB];done)| (refine⟨by decide+kernel,?_⟩;refine⟨[],?_,?_,?_,?_,?_,?_,?_⟩<;>simp[nmF,inB])
theorem zi6 {l:List MStep}(h:zc4 l=true):l.length≤60∧∀s∈l,OkSt s:=by
 simp only[zc4,Bool.and_eq_true,decide_eq_true_eq,List.all_eq_true]at h;refine⟨h.2,fun s hs=>?_⟩;have:=h.1 s hs;simp only[zkg,Bool.and_eq_true,decide_eq_true_eq]at this;obtain⟨⟨⟨q1,q2⟩,q3⟩,q4⟩:=this;have:=ql6 q1;exact⟨⟨by omega,by omega⟩,by omega,by omega⟩
end Go.Proofs.YtekckhepcdndcaaGreatDoor
