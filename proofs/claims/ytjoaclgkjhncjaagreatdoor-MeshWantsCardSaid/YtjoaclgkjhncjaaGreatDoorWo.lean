/-
  LAYER 24: the walks of a mesh made, and of many steps; the laws' own helpers.
-/
import Derived.Test.YtjoaclgkjhncjaaGreatDoorWn
import Derived.Test.YtjoaclgkjhncjaaGreatDoorPq
import Derived.Test.YtjoaclgkjhncjaaGreatDoorWb
set_option linter.unusedSimpArgs false
set_option linter.unusedVariables false
namespace Go.Proofs.YtjoaclgkjhncjaaGreatDoor
open Go.AI Go.G
set_option maxRecDepth 20000
set_option maxHeartbeats 4000000
@[simp] theorem lenAll_mstep (l:List MStep):zb2 (l.map zaf) 11=True:=zbv (f:=zaf) (n:=11) (fun _=>rfl) l
def zdj (l:List MStep):Bool:=l.all zkv&&decide (l.length≤60)
theorem ze5 {l:List MStep}{s:MStep}(hm:s∈l)(h:zkv s=false):zdj l=false:=by
 have:l.all zkv=false:=by rw[List.all_eq_false];exact⟨s,hm,by simp[h]⟩
 simp[zdj,this]
attribute [simp] Tryz.ntmps31 Tryz.results31
theorem qwt (l:List MStep)(ha:∀s∈l,OkRs s.adds)(hl:l.length≤9223372036854775807):Ct Tryz.prog 31 [lst (l.map zaf)] [] [] (bool (zdj l)) []:=by
 refine Ct.B Tryz.func31 mixed 9999 400 ?_;simp;refine LoopI.inv mixed rfl (ι:={k:Nat//k≤(l).length∧(l.take k).all zkv=true}) (fun k=>[(0,lst (l.map zaf)),(3,int k.1)]) (fun k=>[]) 64 (fun k=>(l).length-k.1) ⟨0,by omega,by simp⟩ [] (by constructor<;>simp) ?_;rintro⟨k,hk1,hi⟩ B hB;refine CI.run 9999 400 rfl ?_;simp;refine sBI (fun h=>?_) (fun h=>?_)
 ·have hk:k<(l).length:=by simpa using h
  obtain⟨s,hx,hr,hm,ht,hd⟩:=inL hk;have hw:=wr (k:=k) (by omega);simp only[h];simp[hr,hw];have ea:=zbq s.a.host;have eb:=zbq s.a.path;refine CI.p (qyi s.adds (ha s hm)) Tryz.call67 9999 ?_;simp;cases h1:fewL s.adds with
  |false=>
   have hn:zkv s=false:=by simp[zkv,h1]
   simp[h1];first|exact fin0 (by simp[ze5 hm hn]) rfl|exact zaa (by simp[ze5 hm hn])
  |true=>
   by_cases h2:s.gone.length≤80
   ·have h2':¬(80:Int)<s.gone.length:=by omega
    by_cases h3:(bs s.a.host).length≤100
    ·have h3':¬(100:Int)<(bs s.a.host).length:=by omega
     by_cases h4:(bs s.a.path).length≤100
     ·have h4':¬(100:Int)<(bs s.a.path).length:=by omega
      simp[hr,h1,h2',ea,eb,h3',h4'];refine hB _ ⟨k+1,by omega,by simp[ht,hi,zkv,h1,h2,h3,h4]⟩ [] ?_ (by simp;omega);constructor<;>simp[hw,ht,zkv,h1,h2,h3,h4]
     ·have hn:zkv s=false:=by simp[zkv,h4]
      have h4':(100:Int)<(bs s.a.path).length:=by omega
      simp[hr,h1,h2',ea,eb,h3',h4'];first|exact fin0 (by simp[ze5 hm hn]) rfl|exact zaa (by simp[ze5 hm hn])
    ·have hn:zkv s=false:=by simp[zkv,h3]
     have h3':(100:Int)<(bs s.a.host).length:=by omega
     simp[hr,h1,h2',ea,eb,h3'];first|exact fin0 (by simp[ze5 hm hn]) rfl|exact zaa (by simp[ze5 hm hn])
   ·have hn:zkv s=false:=by simp[zkv,h2]
    have h2':(80:Int)<s.gone.length:=by omega
    simp[hr,h1,h2'];first|exact fin0 (by simp[ze5 hm hn]) rfl|exact zaa (by simp[ze5 hm hn])
 ·have hkl:k=(l).length:=by simp at h;omega
  subst hkl;simp only[h];simp[List.take_length,List.drop_length];rw[List.take_length]at hi;have e60:((l.length:Int)≤60)=(l.length≤60):=propext (by omega);first|exact fin0 (by simp[zdj,hi,e60]) rfl|exact zaa (by simp[zdj,hi,e60])
attribute [simp] Tryz.ntmps8 Tryz.results8
theorem znv (l:List MStep)(ha:∀s∈l,OkRs s.adds)(hl:l.length≤9223372036854775807):Ct Tryz.prog 8 [lst (l.map zaf)] [] [] (bool (zdj l)) []:=by
 refine Ct.B Tryz.func8 mixed 9999 400 ?_;simp;refine CI.p (qwt l ha hl) Tryz.call31 9999 ?_;simp;cases h1:zdj l with
 |false=>
  simp[h1];first|exact fin0 (by simp[h1]) rfl|exact zaa (by simp[h1])
 |true=>
  have h2:(l.length:Int)≤60:=by simp[zdj]at h1;omega
  simp[h1,h2];first|exact fin0 (by simp[h1]) rfl|exact zaa (by simp[h1])
attribute [simp] Tryz.ntmps11 Tryz.results11
theorem zs7 (l:List MStep)(hl:l.length≤1000000):Ct Tryz.prog 11 [lst (l.map zaf)] [] [] (lst (l.map zaf)) []:=by
 refine Ct.B Tryz.func11 mixed 9999 400 ?_;simp;refine LoopI.nilOwn 3 11 47 rfl ?_;refine LoopI.U mixed (l) (fun k=>[(0,lst (l.map zaf)),(3,.own 64),(4,int k.1)]) (fun k=>[(64,.grow 11 ((l.take k.1).map zaf) 47)]) 65 [] (by constructor<;>simp) ?_;rintro⟨k,hk1⟩ B hB;refine CI.run 9999 400 rfl ?_;simp;refine sBI (fun h=>?_) (fun h=>?_)
 ·have hk:k<(l).length:=by simpa using h
  obtain⟨x,hx,hr,hm,ht,hd⟩:=inL hk;have hw:=wr (k:=k) (by omega);simp only[h];simp[hr,hw];refine⟨by omega,?_⟩;refine⟨by decide+kernel,?_⟩;refine hB _ ⟨k+1,by omega⟩ [] ?_ (by simp;omega);constructor<;>simp[hw,ht]
 ·have hkl:k=(l).length:=by simp at h;omega
  subst hkl;simp only[h];simp[List.take_length,List.drop_length];first|exact fin0 (by simp) rfl|exact zaa (by simp)
end Go.Proofs.YtjoaclgkjhncjaaGreatDoor
namespace Go.Proofs.YtjoaclgkjhncjaaGreatDoor
open Go.AI Go.G
set_option maxRecDepth 20000
set_option maxHeartbeats 8000000
abbrev sidI (c:Cfg):Int:=if 1<if 4<c.sides then 4 else c.sides then if 4<c.sides then 4 else c.sides else 1
theorem zte {c:Cfg}{k:Nat}(h:zaj c=k):sidI c=k:=by
 unfold zaj at h;unfold sidI;split<;>split at* <;>omega
@[simp] def qpc :Nat→List (List D)→List (Nat×Blk)
  |_,[]=>[]
  |j,n::l=>(j,.cells (n.map .d) 120)::qpc (j+1) l
abbrev BK (M:G.Mesh):List (Nat×Blk):=(64,.cells [int M.c.sides,int M.c.cap,int M.c.limit,int M.c.max,int M.p.cap,lst (M.p.hist.map rsC),.own 65,int M.lost] 108)::(65,.grp (qbt 66 (M.ns.map zcm)) 109)::qpc 66 (M.ns.map zcm)
attribute [simp] Tryz.ntmps9 Tryz.results9
theorem qr3 (c:Cfg)(hk:zaj c=1):Ct Tryz.prog 9 [st (cfgC c)] [] [] (.ptr 64 0) (BK ⟨c,newS c.cap,[zag c],0⟩):=by
 refine Ct.B Tryz.func9 mixed 9999 400 ?_;simp;have hs:=zte hk;refine CI.p (zr5 c.cap) Tryz.call32 9999 ?_;simp;refine⟨by decide+kernel,?_⟩;simp only[hs];refine LoopI.rounds 2 ?_;refine RoundsI.step mixed rfl ?_;refine CI.run 9999 400 rfl ?_;simp;refine CI.p (zhf c.limit c.max) Tryz.call33 9999 ?_;simp;refine CI.p (zci 0 c.max) Tryz.call34 9999 ?_;simp;refine⟨by decide+kernel,?_⟩;refine RoundsI.step mixed rfl ?_;refine CI.run 6 400 rfl ?_;simp;refine CI.s (tm:=[(3,.ptr 512 0)]) (mm:=[(512,.cells [int c.sides,int c.cap,int c.limit,int c.max,int (newS c.cap).cap,lst ((newS c.cap).hist.map rsC),.own 2048,int 0] 108),(2048,.grp [1920] 109),(1920,.cells ((zcm (zag c)).map .d) 120)]) (nx:=2112) [] [] (by constructor<;>simp[zag,zPool]) ?_;refine CI.run 9999 400 rfl ?_;simp;first| (refine⟨[(64,512),(65,2048),(66,1920)],?_,?_,?_,?_,?_,?_,?_⟩<;>simp[nmF,inB];done)| (refine⟨by decide+kernel,?_⟩;refine⟨[(64,512),(65,2048),(66,1920)],?_,?_,?_,?_,?_,?_,?_⟩<;>simp[nmF,inB])
theorem qr2 (c:Cfg)(hk:zaj c=2):Ct Tryz.prog 9 [st (cfgC c)] [] [] (.ptr 64 0) (BK ⟨c,newS c.cap,[zag c,zag c],0⟩):=by
 refine Ct.B Tryz.func9 mixed 9999 400 ?_;simp;have hs:=zte hk;refine CI.p (zr5 c.cap) Tryz.call32 9999 ?_;simp;refine⟨by decide+kernel,?_⟩;simp only[hs];refine LoopI.rounds 3 ?_;refine RoundsI.step mixed rfl ?_;refine CI.run 9999 400 rfl ?_;simp;refine CI.p (zhf c.limit c.max) Tryz.call33 9999 ?_;simp;refine CI.p (zci 0 c.max) Tryz.call34 9999 ?_;simp;refine⟨by decide+kernel,?_⟩;refine RoundsI.step mixed rfl ?_;refine CI.run 9999 400 rfl ?_;simp;refine CI.p (zhf c.limit c.max) Tryz.call33 9999 ?_;simp;refine CI.p (zci 0 c.max) Tryz.call34 9999 ?_;simp;refine⟨by decide+kernel,?_⟩;refine RoundsI.step mixed rfl ?_;refine CI.run 6 400 rfl ?_;simp;refine CI.s (tm:=[(3,.ptr 512 0)]) (mm:=[(512,.cells [int c.sides,int c.cap,int c.limit,int c.max,int (newS c.cap).cap,lst ((newS c.cap).hist.map rsC),.own 3520,int 0] 108),(3520,.grp [1920,3392] 109),(1920,.cells ((zcm (zag c)).map .d) 120),(3392,.cells ((zcm (zag c)).map .d) 120)]) (nx:=3584) [] [] (by constructor<;>simp[zag,zPool]) ?_;refine CI.run 9999 400 rfl ?_;simp;first| (refine⟨[(64,512),(65,3520),(66,1920),(67,3392)],?_,?_,?_,?_,?_,?_,?_⟩<;>simp[nmF,inB];done)| (refine⟨by decide+kernel,?_⟩;refine⟨[(64,512),(65,3520),(66,1920),(67,3392)],?_,?_,?_,?_,?_,?_,?_⟩<;>simp[nmF,inB])
theorem qr1 (c:Cfg)(hk:zaj c=3):Ct Tryz.prog 9 [st (cfgC c)] [] [] (.ptr 64 0) (BK ⟨c,newS c.cap,[zag c,zag c,zag c],0⟩):=by
 refine Ct.B Tryz.func9 mixed 9999 400 ?_;simp;have hs:=zte hk;refine CI.p (zr5 c.cap) Tryz.call32 9999 ?_;simp;refine⟨by decide+kernel,?_⟩;simp only[hs];refine LoopI.rounds 4 ?_;refine RoundsI.step mixed rfl ?_;refine CI.run 9999 400 rfl ?_;simp;refine CI.p (zhf c.limit c.max) Tryz.call33 9999 ?_;simp;refine CI.p (zci 0 c.max) Tryz.call34 9999 ?_;simp;refine⟨by decide+kernel,?_⟩;refine RoundsI.step mixed rfl ?_;refine CI.run 9999 400 rfl ?_;simp;refine CI.p (zhf c.limit c.max) Tryz.call33 9999 ?_;simp;refine CI.p (zci 0 c.max) Tryz.call34 9999 ?_;simp;refine⟨by decide+kernel,?_⟩;refine RoundsI.step mixed rfl ?_;refine CI.run 9999 400 rfl ?_;simp;refine CI.p (zhf c.limit c.max) Tryz.call33 9999 ?_;simp;refine CI.p (zci 0 c.max) Tryz.call34 9999 ?_;simp;refine⟨by decide+kernel,?_⟩;refine RoundsI.step mixed rfl ?_;refine CI.run 6 400 rfl ?_;simp;refine CI.s (tm:=[(3,.ptr 512 0)]) (mm:=[(512,.cells [int c.sides,int c.cap,int c.limit,int c.max,int (newS c.cap).cap,lst ((newS c.cap).hist.map rsC),.own 4992,int 0] 108),(4992,.grp [1920,3392,4864] 109),(1920,.cells ((zcm (zag c)).map .d) 120),(3392,.cells ((zcm (zag c)).map .d) 120),(4864,.cells ((zcm (zag c)).map .d) 120)]) (nx:=5056) [] [] (by constructor<;>simp[zag,zPool]) ?_;refine CI.run 9999 400 rfl ?_;simp;first| (refine⟨[(64,512),(65,4992),(66,1920),(67,3392),(68,4864)],?_,?_,?_,?_,?_,?_,?_⟩<;>simp[nmF,inB];done)| (refine⟨by decide+kernel,?_⟩;refine⟨[(64,512),(65,4992),(66,1920),(67,3392),(68,4864)],?_,?_,?_,?_,?_,?_,?_⟩<;>simp[nmF,inB])
theorem qr0 (c:Cfg)(hk:zaj c=4):Ct Tryz.prog 9 [st (cfgC c)] [] [] (.ptr 64 0) (BK ⟨c,newS c.cap,[zag c,zag c,zag c,zag c],0⟩):=by
 refine Ct.B Tryz.func9 mixed 9999 400 ?_;simp;have hs:=zte hk;refine CI.p (zr5 c.cap) Tryz.call32 9999 ?_;simp;refine⟨by decide+kernel,?_⟩;simp only[hs];refine LoopI.rounds 5 ?_;refine RoundsI.step mixed rfl ?_;refine CI.run 9999 400 rfl ?_;simp;refine CI.p (zhf c.limit c.max) Tryz.call33 9999 ?_;simp;refine CI.p (zci 0 c.max) Tryz.call34 9999 ?_;simp;refine⟨by decide+kernel,?_⟩;refine RoundsI.step mixed rfl ?_;refine CI.run 9999 400 rfl ?_;simp;refine CI.p (zhf c.limit c.max) Tryz.call33 9999 ?_;simp;refine CI.p (zci 0 c.max) Tryz.call34 9999 ?_;simp;refine⟨by decide+kernel,?_⟩;refine RoundsI.step mixed rfl ?_;refine CI.run 9999 400 rfl ?_;simp;refine CI.p (zhf c.limit c.max) Tryz.call33 9999 ?_;simp;refine CI.p (zci 0 c.max) Tryz.call34 9999 ?_;simp;refine⟨by decide+kernel,?_⟩;refine RoundsI.step mixed rfl ?_;refine CI.run 9999 400 rfl ?_;simp;refine CI.p (zhf c.limit c.max) Tryz.call33 9999 ?_;simp;refine CI.p (zci 0 c.max) Tryz.call34 9999 ?_;simp;refine⟨by decide+kernel,?_⟩;refine RoundsI.step mixed rfl ?_;refine CI.run 6 400 rfl ?_;simp;refine CI.s (tm:=[(3,.ptr 512 0)]) (mm:=[(512,.cells [int c.sides,int c.cap,int c.limit,int c.max,int (newS c.cap).cap,lst ((newS c.cap).hist.map rsC),.own 6464,int 0] 108),(6464,.grp [1920,3392,4864,6336] 109),(1920,.cells ((zcm (zag c)).map .d) 120),(3392,.cells ((zcm (zag c)).map .d) 120),(4864,.cells ((zcm (zag c)).map .d) 120),(6336,.cells ((zcm (zag c)).map .d) 120)]) (nx:=6528) [] [] (by constructor<;>simp[zag,zPool]) ?_;refine CI.run 9999 400 rfl ?_;simp;first| (refine⟨[(64,512),(65,6464),(66,1920),(67,3392),(68,4864),(69,6336)],?_,?_,?_,?_,?_,?_,?_⟩<;>simp[nmF,inB];done)| (refine⟨by decide+kernel,?_⟩;refine⟨[(64,512),(65,6464),(66,1920),(67,3392),(68,4864),(69,6336)],?_,?_,?_,?_,?_,?_,?_⟩<;>simp[nmF,inB])
end Go.Proofs.YtjoaclgkjhncjaaGreatDoor
namespace Go.Proofs.YtjoaclgkjhncjaaGreatDoor
open Go.AI Go.G
set_option maxRecDepth 20000
set_option maxHeartbeats 8000000
@[simp] theorem qdw :∀(l:List D) (ys:List AV),pairA.pairL (l.map .d) ys=[]
  |[],ys=>by cases ys<;>rfl
  |x::l,[]=>rfl
  |x::l,y::ys=>by simp only[List.map_cons,pairA.pairL,qdw l ys,List.append_nil];cases y<;>simp[pairA]
@[simp] theorem prA_mapd (kp:Nat→Bool)(mm:Nat→Option Blk)(n:Nat):prA kp mm n∘AV.d=AV.d:=by funext x;cases n<;>simp[prA]
@[simp] theorem leL_refl (l:List AV):leA.leL l l=True:=eq_true (zos l)
abbrev BD (b:Nat)(M:G.Mesh)(ks:List (List D)):List (Nat×Blk):=(b,.cells [int M.c.sides,int M.c.cap,int M.c.limit,int M.c.max,int M.p.cap,lst (M.p.hist.map rsC),.own (b+1),int M.lost] 108)::(b+1,.grp (qbt (b+2) ks) 109)::qj8 (b+2) ks
theorem qr7 (c:Cfg)(hk:zaj c=1):Ct Tryz.prog 9 [st (cfgC c)] [] [] (.ptr 64 0) (BD 64 (newM c) [ndC (newM c) 0]):=by
 have e:newM c=⟨c,newS c.cap,[zag c],0⟩:=by unfold newM;rw[hk];rfl
 rw[e];exact qr3 c hk
theorem qr6 (c:Cfg)(hk:zaj c=2):Ct Tryz.prog 9 [st (cfgC c)] [] [] (.ptr 64 0) (BD 64 (newM c) [ndC (newM c) 0,ndC (newM c) 1]):=by
 have e:newM c=⟨c,newS c.cap,[zag c,zag c],0⟩:=by unfold newM;rw[hk];rfl
 rw[e];exact qr2 c hk
theorem qr5 (c:Cfg)(hk:zaj c=3):Ct Tryz.prog 9 [st (cfgC c)] [] [] (.ptr 64 0) (BD 64 (newM c) [ndC (newM c) 0,ndC (newM c) 1,ndC (newM c) 2]):=by
 have e:newM c=⟨c,newS c.cap,[zag c,zag c,zag c],0⟩:=by unfold newM;rw[hk];rfl
 rw[e];exact qr1 c hk
theorem qr4 (c:Cfg)(hk:zaj c=4):Ct Tryz.prog 9 [st (cfgC c)] [] [] (.ptr 64 0) (BD 64 (newM c) [ndC (newM c) 0,ndC (newM c) 1,ndC (newM c) 2,ndC (newM c) 3]):=by
 have e:newM c=⟨c,newS c.cap,[zag c,zag c,zag c,zag c],0⟩:=by unfold newM;rw[hk];rfl
 rw[e];exact qr0 c hk
theorem zpk (c:Cfg):zaj c=1∨zaj c=2∨zaj c=3∨zaj c=4:=by unfold zaj;omega
end Go.Proofs.YtjoaclgkjhncjaaGreatDoor
namespace Go.Proofs.YtjoaclgkjhncjaaGreatDoor
open Go.AI Go.G
set_option maxRecDepth 20000
set_option maxHeartbeats 4000000
attribute [simp] Tryz.ntmps10 Tryz.results10
theorem zo0 (c:Cfg):Ct Tryz.prog 10 [st (cfgC c)] [] [] (st (cfgC c)) []:=by
 refine Ct.B Tryz.func10 mixed 9999 400 ?_;simp;first|exact fin0 (by simp) rfl|exact zaa (by simp)
attribute [simp] Tryz.ntmps435 Tryz.results435 Tryz.ntmps18 Tryz.results18
theorem zyv (c:Cfg)(p:Store)(lost:Int)(ks:List (List D))(h1:1≤ks.length)(h4:ks.length≤4):Ct Tryz.prog 18 [.ptr 0 0] (BC c p lost ks) [] (st (zbg p)) []:=by
 rcases four h1 h4 with⟨a,e⟩|⟨a,b,e⟩|⟨a,b,d,e⟩|⟨a,b,d,f,e⟩
 all_goals
  subst e;refine Ct.B Tryz.func18 mixed 9999 400 ?_;simp;first| (refine⟨[],?_,?_,?_,?_,?_,?_,?_⟩<;>simp[nmF,inB];done)| (refine⟨by decide+kernel,?_⟩;refine⟨[],?_,?_,?_,?_,?_,?_,?_⟩<;>simp[nmF,inB])
theorem zoq {l:List MStep}(h:zdj l=true):l.length≤60∧∀s∈l,OkSt s:=by
 simp only[zdj,Bool.and_eq_true,decide_eq_true_eq,List.all_eq_true]at h;refine⟨h.2,fun s hs=>?_⟩;have:=h.1 s hs;simp only[zkv,Bool.and_eq_true,decide_eq_true_eq]at this;obtain⟨⟨⟨q1,q2⟩,q3⟩,q4⟩:=this;have:=qng q1;exact⟨⟨by omega,by omega⟩,by omega,by omega⟩
end Go.Proofs.YtjoaclgkjhncjaaGreatDoor
namespace Go.Proofs.YtjoaclgkjhncjaaGreatDoor
open Go.AI Go.G
set_option maxRecDepth 20000
set_option maxHeartbeats 8000000
attribute [simp] Tryz.ntmps65 Tryz.results65 Tryz.ntmps20 Tryz.results20
theorem qom (c:Cfg)(p:Store)(lost:Int)(ks:List (List D))(k_:Int)(i:Nat)(n:G.Node)(h4:ks.length≤4)(hi:ks[i]? =some (zcm n))(hk:k_=i):Ct Tryz.prog 20 [.ptr 0 0,int k_] (BC c p lost ks) [] (.tup [st (zfb n.sess),bool true]) []:=by
 have hl:i<ks.length:=(List.getElem?_eq_some_iff.1 hi).1;have h1:1≤ks.length:=by omega
 have e:i=0∨i=1∨i=2∨i=3:=by omega
 rcases four h1 h4 with⟨a,x⟩|⟨a,b,x⟩|⟨a,b,d,x⟩|⟨a,b,d,f,x⟩<;>subst x<;>rcases e with x|x|x|x<;>subst x
 all_goals first
  | (exfalso;simp at hl;done)
  |skip
 all_goals
  simp only[List.getElem?_cons_zero,List.getElem?_cons_succ,Option.some.injEq]at hi;subst hi;refine Ct.B Tryz.func20 mixed 9999 400 ?_;simp;refine CI.cc [0,1,2,3,4,5] (zr4 c p lost _ k_ _ hk hl h4) Tryz.call37 9999 ?_;simp;first| (refine⟨[],?_,?_,?_,?_,?_,?_,?_⟩<;>simp[nmF,inB];done)| (refine⟨by decide+kernel,?_⟩;refine⟨[],?_,?_,?_,?_,?_,?_,?_⟩<;>simp[nmF,inB])
end Go.Proofs.YtjoaclgkjhncjaaGreatDoor
namespace Go.Proofs.YtjoaclgkjhncjaaGreatDoor
open Go.AI Go.G
set_option maxRecDepth 20000
set_option maxHeartbeats 8000000
theorem qbs (c:Cfg):Ct Tryz.prog 9 [st (cfgC c)] [] [] (.ptr 64 0) (BD 64 (newM c) (ndL (newM c) 0 (zaj c))):=by
 rcases zpk c with hk|hk|hk|hk<;>rw[hk]
 ·exact qr7 c hk
 ·exact qr6 c hk
 ·exact qr5 c hk
 ·exact qr4 c hk
theorem zs8 (M:G.Mesh)(s:MStep)(B:Int){k:Nat}(hk:M.ns.length=k)(hM:OkM M B)(hB:B≤100000000)(hs:OkSt s):CtJ errG Tryz.prog 12 [.ptr 0 0,st (zaf s)] [] (BC M.c M.p M.lost (ndL M 0 k)) (st (zb9 (za2 M s).2)) (BC (za2 M s).1.c (za2 M s).1.p (za2 M s).1.lost (ndL (za2 M s).1 0 k)):=by
 have h:=qok M s B hM hB hs;rw[BM,BM,qh8 hk,qh8 ((stepM_len hM s).trans hk)]at h;exact h
attribute [simp] Tryz.ntmps13 Tryz.results13
theorem qa0 (c:Cfg)(p:Store)(lost:Int)(ks:List (List D))(k_:Int)(i:Nat)(n:G.Node)(h4:ks.length≤4)(hi:ks[i]? =some (zcm n))(hk:k_=i):Ct Tryz.prog 13 [.ptr 0 0,int k_] (BC c p lost ks) [] (.tup [st (zc1 n.side),bool true]) []:=by
 have hl:i<ks.length:=(List.getElem?_eq_some_iff.1 hi).1;have h1:1≤ks.length:=by omega
 have e:i=0∨i=1∨i=2∨i=3:=by omega
 rcases four h1 h4 with⟨a,x⟩|⟨a,b,x⟩|⟨a,b,d,x⟩|⟨a,b,d,f,x⟩<;>subst x<;>rcases e with x|x|x|x<;>subst x
 all_goals first
  | (exfalso;simp at hl;done)
  |skip
 all_goals
  simp only[List.getElem?_cons_zero,List.getElem?_cons_succ,Option.some.injEq]at hi;subst hi;refine Ct.B Tryz.func13 mixed 9999 400 ?_;simp;refine CI.cc [0,1,2,3,4,5] (zr4 c p lost _ k_ _ hk hl h4) Tryz.call37 9999 ?_;simp;first| (refine⟨[],?_,?_,?_,?_,?_,?_,?_⟩<;>simp[nmF,inB];done)| (refine⟨by decide+kernel,?_⟩;refine⟨[],?_,?_,?_,?_,?_,?_,?_⟩<;>simp[nmF,inB])
theorem qqq (c:Cfg)(p:Store)(lost:Int)(ks:List (List D))(k_:Int)(h1:1≤ks.length)(h4:ks.length≤4)(hk:ks.length≤k_):Ct Tryz.prog 13 [.ptr 0 0,int k_] (BC c p lost ks) [] (.tup [st (zc1 zSideL),bool false]) []:=by
 rcases four h1 h4 with⟨a,x⟩|⟨a,b,x⟩|⟨a,b,d,x⟩|⟨a,b,d,f,x⟩<;>subst x
 all_goals
  refine Ct.B Tryz.func13 mixed 9999 400 ?_;simp;refine CI.cc [0,1,2,3,4,5] (qh4 c p lost _ k_ (.inr hk) (by simp) h4) Tryz.call37 9999 ?_;simp;first| (refine⟨[],?_,?_,?_,?_,?_,?_,?_⟩<;>simp[nmF,inB,zSideL];done)| (refine⟨by decide+kernel,?_⟩;refine⟨[],?_,?_,?_,?_,?_,?_,?_⟩<;>simp[nmF,inB,zSideL])
theorem zgm (M:G.Mesh):zb8 M []=(M,[]):=rfl
theorem qmh {M:G.Mesh}{k i:Nat}(q:M.ns.length=k){n:G.Node}(h:M.ns[i]? =some n):(ndL M 0 k)[i]? =some (zcm n):=by
 have:=congrArg (fun l=>l[i]?) (qh8 q);simp only[List.getElem?_map,h]at this;exact this.symm
theorem zdp (M:G.Mesh)(k:Nat):∀i,(ndL M i k).length=k:=by
 induction k with
 |zero=>intro i;rfl
 |succ k ih=>intro i;simp[ndL,ih]
end Go.Proofs.YtjoaclgkjhncjaaGreatDoor
