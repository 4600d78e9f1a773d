/-
  LAYER 24: the walk of MeshCounts.
-/
import Derived.Test.YtekckhepcdndcaaGreatDoorWp
import Derived.Test.YtekckhepcdndcaaGreatDoorPt
set_option linter.unusedSimpArgs false
set_option linter.unusedVariables false
namespace Go.Proofs.YtekckhepcdndcaaGreatDoor
open Go.AI Go.G
set_option maxRecDepth 20000
set_option maxHeartbeats 8000000
attribute [simp] Tryz.ntmps23 Tryz.results23
theorem qqb (f:G.Frame)(hl:f.have_.length≤1000000):Ct Tryz.prog 23 [st (zai f)] [] [] (st (zai f)) []:=by
 refine Ct.B Tryz.func23 mixed 9999 400 ?_;simp;refine LoopI.nilCell 1408 8 3 137 98 _ rfl rfl ?_;refine LoopI.U mixed (f.have_) (fun k=>[(1,.ptr 64 0),(2,.ptr 65 0),(3,.ptr 66 0),(4,int k.1)]) (fun k=>[(64,.cells ((zai f).map .d) 49),(65,.cells ((zai zFrame).map .d) 98),(66,.cells [int f.type,int f.epoch,int f.kind,int f.nonce,int f.turn,lst (f.adds.map resC),lst (f.gone.map keyC),int f.err,.own 67,lst (f.held.map keyC)] 98),(67,.grow 3 ((f.have_.take k.1).map zdx) 137)]) 68 [] (by constructor<;>simp[zFrame]) ?_;rintro⟨k,hk1⟩ B hB;refine CI.run 9999 400 rfl ?_;simp[zFrame];refine sBI (fun h=>?_) (fun h=>?_)
 ·have hk:k<(f.have_).length:=by simpa using h
  obtain⟨x,hx,hr,hm,ht,hd⟩:=inL hk;have hw:=wr (k:=k) (by omega);simp only[h];simp[hr,hw];refine⟨by omega,?_⟩;refine⟨by decide+kernel,?_⟩;refine hB _ ⟨k+1,by omega⟩ [] ?_ (by simp;omega);constructor<;>simp[hw,ht,zFrame]
 ·have hkl:k=(f.have_).length:=by simp at h;omega
  subst hkl;simp only[h];simp[List.take_length,List.drop_length];have e:List.take f.have_.length (List.map zdx f.have_)=List.map zdx f.have_:=by rw[←List.map_take,List.take_length]
  first|exact fin0 (by simp[e]) rfl|exact zaa (by simp[e])
theorem tall_zero (x:Int):zkq [] x=0:=rfl
theorem renews_zero (i:Nat):renewsN [] i=0:=rfl
theorem qou (l:List MStep)(k:Nat)(x:Int):zkq (l.take k) x≤l.length:=by
 unfold zkq;exact Nat.le_trans (List.length_filter_le _ _) (by simp;omega)
attribute [simp] Tryz.ntmps25 Tryz.results25
theorem qtf (l:List MStep)(x:Int)(hl:l.length≤1000000):Ct Tryz.prog 25 [lst (l.map mstepC),int x] [] [] (int (zkq l x)) []:=by
 refine Ct.B Tryz.func25 mixed 9999 400 ?_;simp;refine LoopI.U mixed (l) (fun k=>[(0,lst (l.map mstepC)),(1,int x),(5,int (zkq (l.take k.1) x)),(6,int k.1)]) (fun k=>[]) 64 [] (by constructor<;>simp[tall_zero]) ?_;rintro⟨k,hk1⟩ B hB;refine CI.run 9999 400 rfl ?_;simp[tall_zero];refine sBI (fun h=>?_) (fun h=>?_)
 ·have hk:k<(l).length:=by simpa using h
  obtain⟨s,hx,hr,hm,ht,hd⟩:=inL hk;have hw:=wr (k:=k) (by omega);simp only[h];simp[hr,hw];have htl:=qou l k x;have hw2:IntKind.wrap .i64 ((zkq (l.take k) x:Int)+1)=(zkq (l.take k) x:Int)+1:=zab (by omega) (by omega);refine sBI (fun h1=>?_) (fun h1=>?_)<;>simp only[h1]<;>simp[hr]<;>(try simp only[nT,nF,dT,dF]at h1)
  ·refine hB _ ⟨k+1,by omega⟩ [] ?_ (by simp;omega);constructor<;>simp[hw,ht,zog,h1,hw2]
  ·refine hB _ ⟨k+1,by omega⟩ [] ?_ (by simp;omega);constructor<;>simp[hw,ht,zog,h1]
 ·have hkl:k=(l).length:=by simp at h;omega
  subst hkl;simp only[h];simp[List.take_length,List.drop_length];first|exact fin0 (by simp) rfl|exact zaa (by simp)
theorem qft (l:List MStep)(k i:Nat):renewsN (l.take k) i≤l.length:=by
 unfold renewsN;exact Nat.le_trans (List.length_filter_le _ _) (by simp;omega)
theorem zj1 (l:List MStep)(s:MStep)(i:Nat):renewsN (l++[s]) i=renewsN l i+if s.kind=5∧s.side=(i:Int)then 1 else 0:=by
 unfold renewsN;rw[List.filter_append,List.length_append];congr 1
 by_cases h1:s.kind=5<;>by_cases h2:s.side=(i:Int)<;>simp[h1,h2]
theorem qmf (c:Cfg)(l:List MStep)(ha:∀s∈l,OkRs s.adds)(hl:l.length≤9223372036854775807)(hf:zc4 l=true)(hm:¬c.max<1000):CtJ errG Tryz.prog 5 [st (cfgC c),lst (l.map mstepC)] [] [] (bool true) []:=by
 obtain⟨h60,hs⟩:=zi6 hf;rcases zxt c with hk|hk|hk|hk
 all_goals
  refine CtJ.B errK Tryz.func5 mixed 9999 400 ?_;simp;refine CI.j [] zgp Tryz.call6 9999 ?_;simp;refine CI.p (zjr l ha hl) Tryz.call7 9999 ?_ (ha:=by simp[hf]);simp[hf];simp[hm];refine CI.p (zdv l (by omega)) Tryz.call10 9999 ?_;simp;refine CI.p (zel c) Tryz.call9 9999 ?_;simp;refine CI.j [] (qnh c l (by omega) hs) Tryz.call8 9999 ?_ (ha:=by simp[hk,ndL]) (hn:=by constructor<;>simp[nmOk,hk,ndL]) (hk:=by simp[hk,ndL]);simp[hk,ndL];have q:(zad (newM c) l).1.ns.length=zar c:=(zbb l (OkM.new c) hs).2.trans (by simp[newM]);have okm:=(zbb l (OkM.new c) hs).1;obtain⟨cs,cn⟩:=qv2 c (by omega) (l:=l) (by omega) hs;generalize(zad (newM c) l).2=os;generalize(zad (newM c) l).1=M at q cs cn okm⊢;refine LoopI.inv mixed rfl (ι:={k:Nat//k≤zar c}) (fun k=>[(5,bool true),(6,lst (l.map mstepC)),(7,.ptr 1216 0),(9,int k.1)]) (fun k=>BD 1216 M (ndL M 0 (zar c))) 1664 (fun k=>zar c-k.1) ⟨0,by omega⟩ [] (by constructor<;>simp[hk,ndL]) ?_;rintro⟨i,hi⟩ B hB;refine CI.run 9999 400 rfl ?_;simp;refine CI.cc [1216,1217,1218,1219,1220,1221] (zfh M.c M.p M.lost (ndL M 0 (zar c)) (by simp[hk,ndL]) (by simp[hk,ndL])) Tryz.call11 9999 ?_ (ha:=by simp[hk,ndL]) (hn:=by constructor<;>simp[nmOk,hk,ndL]) (hk:=by simp[hk,ndL]);simp[hk,ndL];refine sBI (fun h1=>?_) (fun h1=>?_)<;>simp only[h1]<;>simp<;>(try simp only[nT,nF,dT,dF]at h1)
  ·have hi':i<zar c:=by omega
   obtain⟨n,hn1⟩:∃n,M.ns[i]? =some n:=⟨_,List.getElem?_eq_getElem (by omega)⟩;have hd:(ndL M 0 (zar c))[i]? =some (zb5 n):=by
    have:=congrArg (fun l=>l[i]?) (zjp q);simp only[List.getElem?_map,hn1]at this;exact this.symm
   obtain⟨e1,e2,e3⟩:=cs i n hn1;have on:=okm.ok n (List.mem_of_getElem? hn1);refine LoopI.U mixed (l) (fun kj=>[(5,bool true),(6,lst (l.map mstepC)),(7,.ptr 1216 0),(9,int i),(10,int (renewsN (l.take kj.1) i)),(11,int kj.1)]) (fun kj=>BD 1216 M (ndL M 0 (zar c))) 2240 [] (by constructor<;>simp[hk,ndL,renews_zero]) ?_;rintro⟨kj,hk1j⟩ Bj hBj;refine CI.run 9999 400 rfl ?_;simp[hk,ndL,renews_zero];refine sBI (fun hj=>?_) (fun hj=>?_)
   ·have hkj:kj<(l).length:=by simpa using hj
    obtain⟨s,hxj,hrj,hmj,htj,hdj⟩:=inL hkj;have hwj:=wr (k:=kj) (by omega);simp only[hj];simp[hrj,hwj];have htl:=qft l kj i;have hw2:IntKind.wrap .i64 ((renewsN (l.take kj) i:Int)+1)=(renewsN (l.take kj) i:Int)+1:=zab (by omega) (by omega);refine sGI (fun h2=>?_) (fun h2=>?_)<;>simp only[h2]<;>simp[hrj]<;>(try simp only[nT,nF,dT,dF]at h2)
    ·refine sBI (fun h3=>?_) (fun h3=>?_)<;>simp only[h3]<;>simp[hrj]<;>(try simp only[nT,nF,dT,dF]at h3)
     ·refine hBj _ ⟨kj+1,by omega⟩ [] ?_ (by simp;omega);constructor<;>simp[hwj,htj,zj1,h2,h3,hw2,hk,ndL]
     ·refine hBj _ ⟨kj+1,by omega⟩ [] ?_ (by simp;omega);constructor<;>simp[hwj,htj,zj1,h2,h3,hk,ndL]
    ·refine hBj _ ⟨kj+1,by omega⟩ [] ?_ (by simp;omega);constructor<;>simp[hwj,htj,zj1,h2,hk,ndL]
   ·have hklj:kj=(l).length:=by simp at hj;omega
    subst hklj;simp only[hj];simp[List.take_length,List.drop_length];refine CI.cc [1216,1217,1218,1219,1220,1221] (qtn M.c M.p M.lost _ i i n (by simp[hk,ndL]) hd rfl) Tryz.call21 9999 ?_ (ha:=by simp[hk,ndL]) (hn:=by constructor<;>simp[nmOk,hk,ndL]) (hk:=by simp[hk,ndL]);simp[hk,ndL];refine CI.cc [1216,1217,1218,1219,1220,1221] (qnd M.c M.p M.lost _ i i n (by simp[hk,ndL]) hd rfl) Tryz.call15 9999 ?_ (ha:=by simp[hk,ndL]) (hn:=by constructor<;>simp[nmOk,hk,ndL]) (hk:=by simp[hk,ndL]);simp[hk,ndL];simp[e1,e2];refine CI.p (qqb n.sess.v.push (by have:=e3;simp only[fewF,Bool.and_eq_true,decide_eq_true_eq]at this;omega)) Tryz.call23 9999 ?_;simp;refine CI.p (qvp n.sess.v.push on.so.v.push) Tryz.call22 9999 ?_ (ha:=by simp[e3]);simp[e3];have wi:IntKind.wrap .i64 ((i:Int)+1)=i+1:=zab (by omega) (by omega);refine hB _ ⟨i+1,by omega⟩ [] ?_ (by simp;omega);constructor<;>simp[wi,hk,ndL]
  ·refine CI.cc [1216,1217,1218,1219,1220,1221] (zhc M.c M.p M.lost (ndL M 0 (zar c)) (by simp[hk,ndL]) (by simp[hk,ndL])) Tryz.call18 9999 ?_ (ha:=by simp[hk,ndL]) (hn:=by constructor<;>simp[nmOk,hk,ndL]) (hk:=by simp[hk,ndL]);simp[hk,ndL];refine CI.p (zsu M.p (by have:=(zcg M.p).1 okm.p;omega)) Tryz.call24 9999 ?_;simp;refine CI.p (qtf l 0 (by omega)) Tryz.call25 9999 ?_;simp;unfold nowI at cn;first| (refine⟨[],?_,?_,?_,?_,?_,?_,?_⟩<;>simp[nmF,inB,cn];done)| (refine⟨by decide+kernel,?_⟩;refine⟨[],?_,?_,?_,?_,?_,?_,?_⟩<;>simp[nmF,inB,cn])
attribute [simp] Tryz.ntmps5 Tryz.results5
theorem qin (c:Cfg)(l:List MStep)(ha:∀s∈l,OkRs s.adds)(hl:l.length≤9223372036854775807)(hf:zc4 l=false):CtJ errG Tryz.prog 5 [st (cfgC c),lst (l.map mstepC)] [] [] (bool true) []:=by
 refine CtJ.B errK Tryz.func5 mixed 9999 400 ?_;simp;refine CI.j [] zgp Tryz.call6 9999 ?_;simp;refine CI.p (zjr l ha hl) Tryz.call7 9999 ?_ (ha:=by simp[hf]);simp[hf];first|exact fin0 (by simp[hf]) rfl|exact zaa (by simp[hf])
theorem qio (c:Cfg)(l:List MStep)(ha:∀s∈l,OkRs s.adds)(hl:l.length≤9223372036854775807)(hf:zc4 l=true)(hm:c.max<1000):CtJ errG Tryz.prog 5 [st (cfgC c),lst (l.map mstepC)] [] [] (bool true) []:=by
 refine CtJ.B errK Tryz.func5 mixed 9999 400 ?_;simp;refine CI.j [] zgp Tryz.call6 9999 ?_;simp;refine CI.p (zjr l ha hl) Tryz.call7 9999 ?_ (ha:=by simp[hf]);simp[hf];simp[hm];first|exact fin0 (by simp) rfl|exact zaa (by simp)
theorem zvq (c:Cfg)(l:List MStep)(h:l.length≤9223372036854775807∧∀s∈l,OkMA s):CtJ errG Tryz.prog 5 [st (cfgC c),lst (l.map mstepC)] [] [] (bool true) []:=by
 have hl:=h.1;have ha:∀s∈l,OkRs s.adds:=fun s hs=>(h.2 s hs).adds;by_cases hf:zc4 l=true
 ·by_cases hm:c.max<1000
  ·exact qio c l ha hl hf hm
  ·exact qmf c l ha hl hf hm
 ·exact qin c l ha hl (by simpa using hf)
end Go.Proofs.YtekckhepcdndcaaGreatDoor
