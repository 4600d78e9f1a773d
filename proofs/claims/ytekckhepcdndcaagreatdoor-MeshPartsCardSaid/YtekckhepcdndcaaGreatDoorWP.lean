/-
  LAYER 24: the walk of MeshParts.
-/
import Derived.Test.YtekckhepcdndcaaGreatDoorWo
import Derived.Test.YtekckhepcdndcaaGreatDoorWn
set_option linter.unusedSimpArgs false
set_option linter.unusedVariables false
namespace Go.Proofs.YtekckhepcdndcaaGreatDoor
open Go.AI Go.G
set_option maxRecDepth 20000
set_option maxHeartbeats 8000000
theorem qxi (r:Int):0≤andK .i64 r 65535∧andK .i64 r 65535≤65535:=by
 have h:(BitVec.ofInt (IntKind.bits .i64) r&&&BitVec.ofInt (IntKind.bits .i64) 65535).toNat≤65535:=by
  rw[BitVec.toNat_and];exact Nat.le_trans Nat.and_le_right (by decide)
 simp only[andK];generalize(BitVec.ofInt (IntKind.bits .i64) r&&&BitVec.ofInt (IntKind.bits .i64) 65535).toNat=q at h;rw[zab (by omega) (by omega)];omega
theorem cutAt (r:Int)(n:Nat):∃m:Nat,m≤n∧((n=0∧m=0∧True)∨(0<n∧¬n=0∧(andK .i64 r 65535).tmod n=m)):=by
 by_cases h:n=0
 ·exact⟨0,by omega,.inl ⟨h,rfl,trivial⟩⟩
 ·have a:=qxi r;have e:(andK .i64 r 65535).tmod n=andK .i64 r 65535%n:=by rw[Int.tmod_eq_emod_of_nonneg a.1]
  have b:=Int.emod_nonneg (andK .i64 r 65535) (b:=(n:Int)) (by omega);have d:=Int.emod_lt_of_pos (andK .i64 r 65535) (b:=(n:Int)) (by omega);exact⟨(andK .i64 r 65535%n).toNat,by omega,.inr ⟨by omega,h,by omega⟩⟩
attribute [simp] Tryz.ntmps4 Tryz.results4
theorem qkn (c:Cfg)(l:List MStep)(r:Int)(hk:zar c=1)(ha:∀s∈l,OkRs s.adds)(hl:l.length≤9223372036854775807)(hf:zc4 l=true):CtJ errG Tryz.prog 4 [st (cfgC c),lst (l.map mstepC),int r] [] [] (bool true) []:=by
 refine CtJ.B errK Tryz.func4 mixed 7 400 ?_;simp;obtain⟨h60,hs⟩:=zi6 hf;obtain⟨m,hm,hc⟩:=cutAt r l.length;have hs1:∀s∈l.take m,OkSt s:=fun s h=>hs s (List.mem_of_mem_take h);have hs2:∀s∈l.drop m,OkSt s:=fun s h=>hs s (List.mem_of_mem_drop h);refine CI.j [] zgp Tryz.call6 7 ?_;simp;refine CI.p (zjr l ha hl) Tryz.call7 7 ?_ (ha:=by simp[hf]);simp[hf];rcases hc with⟨h0,h1,h2⟩|⟨h0,h1,h2⟩
 all_goals
  simp[h0,h1,h2]
 all_goals
  refine CI.s (tm:=[(1,lst (l.map mstepC)),(3,.ptr 64 0),(7,bool true),(8,int m)]) (mm:=[(64,.cells [int c.sides,int c.cap,int c.limit,int c.max] 23)]) (nx:=1152) [] [] (by constructor<;>simp[h1]) ?_
 all_goals
  refine CI.run 9999 400 rfl ?_;simp;refine CI.p (zel c) Tryz.call9 9999 ?_;simp;refine CI.p (zdv l (by omega)) Tryz.call10 9999 ?_;simp;refine CI.j [] (zx5 c l hk (by omega) hs) Tryz.call8 9999 ?_;simp;refine CI.p (zel c) Tryz.call9 9999 ?_;simp;refine⟨hm,?_⟩;refine CI.p (zdv (l.take m) (by simp;omega)) Tryz.call10 9999 ?_;simp;refine CI.j [] (zx5 c (l.take m) hk (by simp;omega) hs1) Tryz.call8 9999 ?_;simp;refine⟨by decide+kernel,?_⟩;refine⟨hm,?_⟩;refine CI.p (zdv (l.drop m) (by simp;omega)) Tryz.call10 9999 ?_;simp
 all_goals
  have q1:=zbb (M:=newM c) (l.take m) (OkM.new c) hs1;have q2:=zbi (l.take m) (newM c);have q3:=zbi l (newM c);have q4:=zsq l (OkM.new c) hs;have e:=zes (l.drop m) (l.take m) (newM c);rw[List.take_append_drop]at e;have hn:(newM c).ns.length=1:=by simp[newM,hk]
  have hd:(l.drop m).length≤60:=by simp;omega
  have ht60:(l.take m).length≤60:=by simp;omega
  generalize hO:zad (newM c) (l.take m)=O at q1 q2 e⊢;generalize hA:zad (newM c) l=A at q3 q4 e⊢;obtain⟨O,os⟩:=O;simp only at q1 q2 e⊢;have hL:List.drop m (l.map mstepC)=(l.drop m).map mstepC:=by rw[List.map_drop]
  generalize l.drop m=L at hL hs2 e hd
 all_goals
  refine LoopI.U mixed (L) (fun k=>[(7,bool true),(9,.ptr 1408 0),(10,.own 1471),(11,.ptr 2176 0),(12,.own 2239),(13,lst (L.map mstepC)),(14,int k.1)]) (fun k=>[(1408,.cells [int A.1.c.sides,int A.1.c.cap,int A.1.c.limit,int A.1.c.max,int A.1.p.cap,lst (A.1.p.hist.map rsC),.own 1409,int A.1.lost] 109),(1409,.grp [1410] 110),(1410,.cells ((ndC A.1 0).map .d) 117),(1471,.grow 7 (A.2.map zam) 67),(2176,.cells [int (zad O (L.take k.1)).1.c.sides,int (zad O (L.take k.1)).1.c.cap,int (zad O (L.take k.1)).1.c.limit,int (zad O (L.take k.1)).1.c.max,int (zad O (L.take k.1)).1.p.cap,lst ((zad O (L.take k.1)).1.p.hist.map rsC),.own 2177,int (zad O (L.take k.1)).1.lost] 109),(2177,.grp [2178] 110),(2178,.cells ((ndC (zad O (L.take k.1)).1 0).map .d) 117),(2239,.grow 7 (os.map zam++(zad O (L.take k.1)).2.map zam) 67)]) 2944 [] (by constructor<;>simp[zad,hL]) ?_;rintro⟨k,hk1⟩ B hB;refine CI.run 9999 400 rfl ?_;simp[zad,hL];refine sBI (fun h=>?_) (fun h=>?_)
  ·have hk:k<(L).length:=by simpa using h
   obtain⟨x,hx,hr,hm,ht,hd⟩:=inL hk;have hw:=wr (k:=k) (by omega);simp only[h];simp[hr,hw];have u:=zbb (M:=O) (L.take k) q1.1 (fun s h=>hs2 s (List.mem_of_mem_take h));have u2:=zbi (L.take k) O;have u3:(L.take k).length≤60:=by simp;omega
   generalize hQ:zad O (L.take k)=Q at u u2⊢;obtain⟨Q,qs⟩:=Q;simp only at u u2⊢;refine CI.j [2176,2177,2178] (zzp Q x _ (u.2.trans (q1.2.trans hn)) u.1 (by omega) (hs2 x hm)) Tryz.call16 9999 ?_;simp;refine⟨by omega,?_⟩;refine hB _ ⟨k+1,by omega⟩ [] ?_ (by simp;omega);constructor<;>simp[hw,ht,zb7,hQ]
  ·have hkl:k=L.length:=by simp at h;omega
   subst hkl;rw[List.take_length,←List.map_append];subst e;simp only at q3 q4⊢;have z1:=(zbb L q1.1 hs2).2.trans (q1.2.trans hn);generalize os++(zad O L).2=W at q3 q4⊢;generalize(zad O L).1=Z at z1⊢;simp only[h];simp;clear hB;refine CI.cc [1408,1409,1410] (zna Z.c Z.p Z.lost [ndC Z 0] (by simp) (by simp)) Tryz.call17 9999 ?_;simp;refine CI.cc [2176,2177,2178] (zna Z.c Z.p Z.lost [ndC Z 0] (by simp) (by simp)) Tryz.call17 9999 ?_;simp;refine CI.cc [1408,1409,1410] (zhc Z.c Z.p Z.lost [ndC Z 0] (by simp) (by simp)) Tryz.call18 9999 ?_;simp;refine CI.cc [2176,2177,2178] (zhc Z.c Z.p Z.lost [ndC Z 0] (by simp) (by simp)) Tryz.call18 9999 ?_;simp;refine LoopI.U mixed (W) (fun kj=>[(7,bool true),(10,.own 1471),(12,.own 2239),(15,int kj.1)]) (fun kj=>[(1471,.grow 7 (W.map zam) 67),(2239,.grow 7 (W.map zam) 67)]) 6000 [] (by constructor<;>simp) ?_;rintro⟨kj,hk1j⟩ Bj hBj;refine CI.run 9999 400 rfl ?_;simp;refine sBI (fun hj=>?_) (fun hj=>?_)
   ·have hkj:kj<(W).length:=by simpa using hj
    obtain⟨w,hxj,hrj,hmj,htj,hdj⟩:=inL hkj;have hwj:=wr (k:=kj) (by omega);simp only[hj];simp[hrj,hwj];have v:=q4 w hmj;simp[hkj,hrj,hxj];refine CI.p (zva w) Tryz.call20 9999 ?_;simp;simp[hkj,hrj,hxj];refine CI.p (zva w) Tryz.call20 9999 ?_;simp;refine CI.p (znz w (by omega) (by omega)) Tryz.call19 9999 ?_;simp;refine⟨by decide+kernel,?_⟩;refine hBj _ ⟨kj+1,by omega⟩ [] ?_ (by simp;omega);constructor<;>simp[hwj,htj]
   ·have hklj:kj=(W).length:=by simp at hj;omega
    subst hklj;simp only[hj];simp[List.take_length,List.drop_length];first| (refine⟨[],?_,?_,?_,?_,?_,?_,?_⟩<;>simp[nmF,inB];done)| (refine⟨by decide+kernel,?_⟩;refine⟨[],?_,?_,?_,?_,?_,?_,?_⟩<;>simp[nmF,inB])
theorem qkm (c:Cfg)(l:List MStep)(r:Int)(hk:zar c=2)(ha:∀s∈l,OkRs s.adds)(hl:l.length≤9223372036854775807)(hf:zc4 l=true):CtJ errG Tryz.prog 4 [st (cfgC c),lst (l.map mstepC),int r] [] [] (bool true) []:=by
 refine CtJ.B errK Tryz.func4 mixed 7 400 ?_;simp;obtain⟨h60,hs⟩:=zi6 hf;obtain⟨m,hm,hc⟩:=cutAt r l.length;have hs1:∀s∈l.take m,OkSt s:=fun s h=>hs s (List.mem_of_mem_take h);have hs2:∀s∈l.drop m,OkSt s:=fun s h=>hs s (List.mem_of_mem_drop h);refine CI.j [] zgp Tryz.call6 7 ?_;simp;refine CI.p (zjr l ha hl) Tryz.call7 7 ?_ (ha:=by simp[hf]);simp[hf];rcases hc with⟨h0,h1,h2⟩|⟨h0,h1,h2⟩
 all_goals
  simp[h0,h1,h2]
 all_goals
  refine CI.s (tm:=[(1,lst (l.map mstepC)),(3,.ptr 64 0),(7,bool true),(8,int m)]) (mm:=[(64,.cells [int c.sides,int c.cap,int c.limit,int c.max] 23)]) (nx:=1152) [] [] (by constructor<;>simp[h1]) ?_
 all_goals
  refine CI.run 9999 400 rfl ?_;simp;refine CI.p (zel c) Tryz.call9 9999 ?_;simp;refine CI.p (zdv l (by omega)) Tryz.call10 9999 ?_;simp;refine CI.j [] (zx4 c l hk (by omega) hs) Tryz.call8 9999 ?_;simp;refine CI.p (zel c) Tryz.call9 9999 ?_;simp;refine⟨hm,?_⟩;refine CI.p (zdv (l.take m) (by simp;omega)) Tryz.call10 9999 ?_;simp;refine CI.j [] (zx4 c (l.take m) hk (by simp;omega) hs1) Tryz.call8 9999 ?_;simp;refine⟨by decide+kernel,?_⟩;refine⟨hm,?_⟩;refine CI.p (zdv (l.drop m) (by simp;omega)) Tryz.call10 9999 ?_;simp
 all_goals
  have q1:=zbb (M:=newM c) (l.take m) (OkM.new c) hs1;have q2:=zbi (l.take m) (newM c);have q3:=zbi l (newM c);have q4:=zsq l (OkM.new c) hs;have e:=zes (l.drop m) (l.take m) (newM c);rw[List.take_append_drop]at e;have hn:(newM c).ns.length=2:=by simp[newM,hk]
  have hd:(l.drop m).length≤60:=by simp;omega
  have ht60:(l.take m).length≤60:=by simp;omega
  generalize hO:zad (newM c) (l.take m)=O at q1 q2 e⊢;generalize hA:zad (newM c) l=A at q3 q4 e⊢;obtain⟨O,os⟩:=O;simp only at q1 q2 e⊢;have hL:List.drop m (l.map mstepC)=(l.drop m).map mstepC:=by rw[List.map_drop]
  generalize l.drop m=L at hL hs2 e hd
 all_goals
  refine LoopI.U mixed (L) (fun k=>[(7,bool true),(9,.ptr 1408 0),(10,.own 1471),(11,.ptr 2176 0),(12,.own 2239),(13,lst (L.map mstepC)),(14,int k.1)]) (fun k=>[(1408,.cells [int A.1.c.sides,int A.1.c.cap,int A.1.c.limit,int A.1.c.max,int A.1.p.cap,lst (A.1.p.hist.map rsC),.own 1409,int A.1.lost] 109),(1409,.grp [1410,1411] 110),(1410,.cells ((ndC A.1 0).map .d) 117),(1411,.cells ((ndC A.1 1).map .d) 117),(1471,.grow 7 (A.2.map zam) 67),(2176,.cells [int (zad O (L.take k.1)).1.c.sides,int (zad O (L.take k.1)).1.c.cap,int (zad O (L.take k.1)).1.c.limit,int (zad O (L.take k.1)).1.c.max,int (zad O (L.take k.1)).1.p.cap,lst ((zad O (L.take k.1)).1.p.hist.map rsC),.own 2177,int (zad O (L.take k.1)).1.lost] 109),(2177,.grp [2178,2179] 110),(2178,.cells ((ndC (zad O (L.take k.1)).1 0).map .d) 117),(2179,.cells ((ndC (zad O (L.take k.1)).1 1).map .d) 117),(2239,.grow 7 (os.map zam++(zad O (L.take k.1)).2.map zam) 67)]) 2944 [] (by constructor<;>simp[zad,hL]) ?_;rintro⟨k,hk1⟩ B hB;refine CI.run 9999 400 rfl ?_;simp[zad,hL];refine sBI (fun h=>?_) (fun h=>?_)
  ·have hk:k<(L).length:=by simpa using h
   obtain⟨x,hx,hr,hm,ht,hd⟩:=inL hk;have hw:=wr (k:=k) (by omega);simp only[h];simp[hr,hw];have u:=zbb (M:=O) (L.take k) q1.1 (fun s h=>hs2 s (List.mem_of_mem_take h));have u2:=zbi (L.take k) O;have u3:(L.take k).length≤60:=by simp;omega
   generalize hQ:zad O (L.take k)=Q at u u2⊢;obtain⟨Q,qs⟩:=Q;simp only at u u2⊢;refine CI.j [2176,2177,2178,2179] (zzo Q x _ (u.2.trans (q1.2.trans hn)) u.1 (by omega) (hs2 x hm)) Tryz.call16 9999 ?_;simp;refine⟨by omega,?_⟩;refine hB _ ⟨k+1,by omega⟩ [] ?_ (by simp;omega);constructor<;>simp[hw,ht,zb7,hQ]
  ·have hkl:k=L.length:=by simp at h;omega
   subst hkl;rw[List.take_length,←List.map_append];subst e;simp only at q3 q4⊢;have z1:=(zbb L q1.1 hs2).2.trans (q1.2.trans hn);generalize os++(zad O L).2=W at q3 q4⊢;generalize(zad O L).1=Z at z1⊢;simp only[h];simp;clear hB;refine CI.cc [1408,1409,1410,1411] (zna Z.c Z.p Z.lost [ndC Z 0,ndC Z 1] (by simp) (by simp)) Tryz.call17 9999 ?_;simp;refine CI.cc [2176,2177,2178,2179] (zna Z.c Z.p Z.lost [ndC Z 0,ndC Z 1] (by simp) (by simp)) Tryz.call17 9999 ?_;simp;refine CI.cc [1408,1409,1410,1411] (zhc Z.c Z.p Z.lost [ndC Z 0,ndC Z 1] (by simp) (by simp)) Tryz.call18 9999 ?_;simp;refine CI.cc [2176,2177,2178,2179] (zhc Z.c Z.p Z.lost [ndC Z 0,ndC Z 1] (by simp) (by simp)) Tryz.call18 9999 ?_;simp;refine LoopI.U mixed (W) (fun kj=>[(7,bool true),(10,.own 1471),(12,.own 2239),(15,int kj.1)]) (fun kj=>[(1471,.grow 7 (W.map zam) 67),(2239,.grow 7 (W.map zam) 67)]) 6000 [] (by constructor<;>simp) ?_;rintro⟨kj,hk1j⟩ Bj hBj;refine CI.run 9999 400 rfl ?_;simp;refine sBI (fun hj=>?_) (fun hj=>?_)
   ·have hkj:kj<(W).length:=by simpa using hj
    obtain⟨w,hxj,hrj,hmj,htj,hdj⟩:=inL hkj;have hwj:=wr (k:=kj) (by omega);simp only[hj];simp[hrj,hwj];have v:=q4 w hmj;simp[hkj,hrj,hxj];refine CI.p (zva w) Tryz.call20 9999 ?_;simp;simp[hkj,hrj,hxj];refine CI.p (zva w) Tryz.call20 9999 ?_;simp;refine CI.p (znz w (by omega) (by omega)) Tryz.call19 9999 ?_;simp;refine⟨by decide+kernel,?_⟩;refine hBj _ ⟨kj+1,by omega⟩ [] ?_ (by simp;omega);constructor<;>simp[hwj,htj]
   ·have hklj:kj=(W).length:=by simp at hj;omega
    subst hklj;simp only[hj];simp[List.take_length,List.drop_length];first| (refine⟨[],?_,?_,?_,?_,?_,?_,?_⟩<;>simp[nmF,inB];done)| (refine⟨by decide+kernel,?_⟩;refine⟨[],?_,?_,?_,?_,?_,?_,?_⟩<;>simp[nmF,inB])
theorem qkl (c:Cfg)(l:List MStep)(r:Int)(hk:zar c=3)(ha:∀s∈l,OkRs s.adds)(hl:l.length≤9223372036854775807)(hf:zc4 l=true):CtJ errG Tryz.prog 4 [st (cfgC c),lst (l.map mstepC),int r] [] [] (bool true) []:=by
 refine CtJ.B errK Tryz.func4 mixed 7 400 ?_;simp;obtain⟨h60,hs⟩:=zi6 hf;obtain⟨m,hm,hc⟩:=cutAt r l.length;have hs1:∀s∈l.take m,OkSt s:=fun s h=>hs s (List.mem_of_mem_take h);have hs2:∀s∈l.drop m,OkSt s:=fun s h=>hs s (List.mem_of_mem_drop h);refine CI.j [] zgp Tryz.call6 7 ?_;simp;refine CI.p (zjr l ha hl) Tryz.call7 7 ?_ (ha:=by simp[hf]);simp[hf];rcases hc with⟨h0,h1,h2⟩|⟨h0,h1,h2⟩
 all_goals
  simp[h0,h1,h2]
 all_goals
  refine CI.s (tm:=[(1,lst (l.map mstepC)),(3,.ptr 64 0),(7,bool true),(8,int m)]) (mm:=[(64,.cells [int c.sides,int c.cap,int c.limit,int c.max] 23)]) (nx:=1152) [] [] (by constructor<;>simp[h1]) ?_
 all_goals
  refine CI.run 9999 400 rfl ?_;simp;refine CI.p (zel c) Tryz.call9 9999 ?_;simp;refine CI.p (zdv l (by omega)) Tryz.call10 9999 ?_;simp;refine CI.j [] (zx3 c l hk (by omega) hs) Tryz.call8 9999 ?_;simp;refine CI.p (zel c) Tryz.call9 9999 ?_;simp;refine⟨hm,?_⟩;refine CI.p (zdv (l.take m) (by simp;omega)) Tryz.call10 9999 ?_;simp;refine CI.j [] (zx3 c (l.take m) hk (by simp;omega) hs1) Tryz.call8 9999 ?_;simp;refine⟨by decide+kernel,?_⟩;refine⟨hm,?_⟩;refine CI.p (zdv (l.drop m) (by simp;omega)) Tryz.call10 9999 ?_;simp
 all_goals
  have q1:=zbb (M:=newM c) (l.take m) (OkM.new c) hs1;have q2:=zbi (l.take m) (newM c);have q3:=zbi l (newM c);have q4:=zsq l (OkM.new c) hs;have e:=zes (l.drop m) (l.take m) (newM c);rw[List.take_append_drop]at e;have hn:(newM c).ns.length=3:=by simp[newM,hk]
  have hd:(l.drop m).length≤60:=by simp;omega
  have ht60:(l.take m).length≤60:=by simp;omega
  generalize hO:zad (newM c) (l.take m)=O at q1 q2 e⊢;generalize hA:zad (newM c) l=A at q3 q4 e⊢;obtain⟨O,os⟩:=O;simp only at q1 q2 e⊢;have hL:List.drop m (l.map mstepC)=(l.drop m).map mstepC:=by rw[List.map_drop]
  generalize l.drop m=L at hL hs2 e hd
 all_goals
  refine LoopI.U mixed (L) (fun k=>[(7,bool true),(9,.ptr 1408 0),(10,.own 1471),(11,.ptr 2176 0),(12,.own 2239),(13,lst (L.map mstepC)),(14,int k.1)]) (fun k=>[(1408,.cells [int A.1.c.sides,int A.1.c.cap,int A.1.c.limit,int A.1.c.max,int A.1.p.cap,lst (A.1.p.hist.map rsC),.own 1409,int A.1.lost] 109),(1409,.grp [1410,1411,1412] 110),(1410,.cells ((ndC A.1 0).map .d) 117),(1411,.cells ((ndC A.1 1).map .d) 117),(1412,.cells ((ndC A.1 2).map .d) 117),(1471,.grow 7 (A.2.map zam) 67),(2176,.cells [int (zad O (L.take k.1)).1.c.sides,int (zad O (L.take k.1)).1.c.cap,int (zad O (L.take k.1)).1.c.limit,int (zad O (L.take k.1)).1.c.max,int (zad O (L.take k.1)).1.p.cap,lst ((zad O (L.take k.1)).1.p.hist.map rsC),.own 2177,int (zad O (L.take k.1)).1.lost] 109),(2177,.grp [2178,2179,2180] 110),(2178,.cells ((ndC (zad O (L.take k.1)).1 0).map .d) 117),(2179,.cells ((ndC (zad O (L.take k.1)).1 1).map .d) 117),(2180,.cells ((ndC (zad O (L.take k.1)).1 2).map .d) 117),(2239,.grow 7 (os.map zam++(zad O (L.take k.1)).2.map zam) 67)]) 2944 [] (by constructor<;>simp[zad,hL]) ?_;rintro⟨k,hk1⟩ B hB;refine CI.run 9999 400 rfl ?_;simp[zad,hL];refine sBI (fun h=>?_) (fun h=>?_)
  ·have hk:k<(L).length:=by simpa using h
   obtain⟨x,hx,hr,hm,ht,hd⟩:=inL hk;have hw:=wr (k:=k) (by omega);simp only[h];simp[hr,hw];have u:=zbb (M:=O) (L.take k) q1.1 (fun s h=>hs2 s (List.mem_of_mem_take h));have u2:=zbi (L.take k) O;have u3:(L.take k).length≤60:=by simp;omega
   generalize hQ:zad O (L.take k)=Q at u u2⊢;obtain⟨Q,qs⟩:=Q;simp only at u u2⊢;refine CI.j [2176,2177,2178,2179,2180] (zzn Q x _ (u.2.trans (q1.2.trans hn)) u.1 (by omega) (hs2 x hm)) Tryz.call16 9999 ?_;simp;refine⟨by omega,?_⟩;refine hB _ ⟨k+1,by omega⟩ [] ?_ (by simp;omega);constructor<;>simp[hw,ht,zb7,hQ]
  ·have hkl:k=L.length:=by simp at h;omega
   subst hkl;rw[List.take_length,←List.map_append];subst e;simp only at q3 q4⊢;have z1:=(zbb L q1.1 hs2).2.trans (q1.2.trans hn);generalize os++(zad O L).2=W at q3 q4⊢;generalize(zad O L).1=Z at z1⊢;simp only[h];simp;clear hB;refine CI.cc [1408,1409,1410,1411,1412] (zna Z.c Z.p Z.lost [ndC Z 0,ndC Z 1,ndC Z 2] (by simp) (by simp)) Tryz.call17 9999 ?_;simp;refine CI.cc [2176,2177,2178,2179,2180] (zna Z.c Z.p Z.lost [ndC Z 0,ndC Z 1,ndC Z 2] (by simp) (by simp)) Tryz.call17 9999 ?_;simp;refine CI.cc [1408,1409,1410,1411,1412] (zhc Z.c Z.p Z.lost [ndC Z 0,ndC Z 1,ndC Z 2] (by simp) (by simp)) Tryz.call18 9999 ?_;simp;refine CI.cc [2176,2177,2178,2179,2180] (zhc Z.c Z.p Z.lost [ndC Z 0,ndC Z 1,ndC Z 2] (by simp) (by simp)) Tryz.call18 9999 ?_;simp;refine LoopI.U mixed (W) (fun kj=>[(7,bool true),(10,.own 1471),(12,.own 2239),(15,int kj.1)]) (fun kj=>[(1471,.grow 7 (W.map zam) 67),(2239,.grow 7 (W.map zam) 67)]) 6000 [] (by constructor<;>simp) ?_;rintro⟨kj,hk1j⟩ Bj hBj;refine CI.run 9999 400 rfl ?_;simp;refine sBI (fun hj=>?_) (fun hj=>?_)
   ·have hkj:kj<(W).length:=by simpa using hj
    obtain⟨w,hxj,hrj,hmj,htj,hdj⟩:=inL hkj;have hwj:=wr (k:=kj) (by omega);simp only[hj];simp[hrj,hwj];have v:=q4 w hmj;simp[hkj,hrj,hxj];refine CI.p (zva w) Tryz.call20 9999 ?_;simp;simp[hkj,hrj,hxj];refine CI.p (zva w) Tryz.call20 9999 ?_;simp;refine CI.p (znz w (by omega) (by omega)) Tryz.call19 9999 ?_;simp;refine⟨by decide+kernel,?_⟩;refine hBj _ ⟨kj+1,by omega⟩ [] ?_ (by simp;omega);constructor<;>simp[hwj,htj]
   ·have hklj:kj=(W).length:=by simp at hj;omega
    subst hklj;simp only[hj];simp[List.take_length,List.drop_length];first| (refine⟨[],?_,?_,?_,?_,?_,?_,?_⟩<;>simp[nmF,inB];done)| (refine⟨by decide+kernel,?_⟩;refine⟨[],?_,?_,?_,?_,?_,?_,?_⟩<;>simp[nmF,inB])
theorem qkk (c:Cfg)(l:List MStep)(r:Int)(hk:zar c=4)(ha:∀s∈l,OkRs s.adds)(hl:l.length≤9223372036854775807)(hf:zc4 l=true):CtJ errG Tryz.prog 4 [st (cfgC c),lst (l.map mstepC),int r] [] [] (bool true) []:=by
 refine CtJ.B errK Tryz.func4 mixed 7 400 ?_;simp;obtain⟨h60,hs⟩:=zi6 hf;obtain⟨m,hm,hc⟩:=cutAt r l.length;have hs1:∀s∈l.take m,OkSt s:=fun s h=>hs s (List.mem_of_mem_take h);have hs2:∀s∈l.drop m,OkSt s:=fun s h=>hs s (List.mem_of_mem_drop h);refine CI.j [] zgp Tryz.call6 7 ?_;simp;refine CI.p (zjr l ha hl) Tryz.call7 7 ?_ (ha:=by simp[hf]);simp[hf];rcases hc with⟨h0,h1,h2⟩|⟨h0,h1,h2⟩
 all_goals
  simp[h0,h1,h2]
 all_goals
  refine CI.s (tm:=[(1,lst (l.map mstepC)),(3,.ptr 64 0),(7,bool true),(8,int m)]) (mm:=[(64,.cells [int c.sides,int c.cap,int c.limit,int c.max] 23)]) (nx:=1152) [] [] (by constructor<;>simp[h1]) ?_
 all_goals
  refine CI.run 9999 400 rfl ?_;simp;refine CI.p (zel c) Tryz.call9 9999 ?_;simp;refine CI.p (zdv l (by omega)) Tryz.call10 9999 ?_;simp;refine CI.j [] (zx2 c l hk (by omega) hs) Tryz.call8 9999 ?_;simp;refine CI.p (zel c) Tryz.call9 9999 ?_;simp;refine⟨hm,?_⟩;refine CI.p (zdv (l.take m) (by simp;omega)) Tryz.call10 9999 ?_;simp;refine CI.j [] (zx2 c (l.take m) hk (by simp;omega) hs1) Tryz.call8 9999 ?_;simp;refine⟨by decide+kernel,?_⟩;refine⟨hm,?_⟩;refine CI.p (zdv (l.drop m) (by simp;omega)) Tryz.call10 9999 ?_;simp
 all_goals
  have q1:=zbb (M:=newM c) (l.take m) (OkM.new c) hs1;have q2:=zbi (l.take m) (newM c);have q3:=zbi l (newM c);have q4:=zsq l (OkM.new c) hs;have e:=zes (l.drop m) (l.take m) (newM c);rw[List.take_append_drop]at e;have hn:(newM c).ns.length=4:=by simp[newM,hk]
  have hd:(l.drop m).length≤60:=by simp;omega
  have ht60:(l.take m).length≤60:=by simp;omega
  generalize hO:zad (newM c) (l.take m)=O at q1 q2 e⊢;generalize hA:zad (newM c) l=A at q3 q4 e⊢;obtain⟨O,os⟩:=O;simp only at q1 q2 e⊢;have hL:List.drop m (l.map mstepC)=(l.drop m).map mstepC:=by rw[List.map_drop]
  generalize l.drop m=L at hL hs2 e hd
 all_goals
  refine LoopI.U mixed (L) (fun k=>[(7,bool true),(9,.ptr 1408 0),(10,.own 1471),(11,.ptr 2176 0),(12,.own 2239),(13,lst (L.map mstepC)),(14,int k.1)]) (fun k=>[(1408,.cells [int A.1.c.sides,int A.1.c.cap,int A.1.c.limit,int A.1.c.max,int A.1.p.cap,lst (A.1.p.hist.map rsC),.own 1409,int A.1.lost] 109),(1409,.grp [1410,1411,1412,1413] 110),(1410,.cells ((ndC A.1 0).map .d) 117),(1411,.cells ((ndC A.1 1).map .d) 117),(1412,.cells ((ndC A.1 2).map .d) 117),(1413,.cells ((ndC A.1 3).map .d) 117),(1471,.grow 7 (A.2.map zam) 67),(2176,.cells [int (zad O (L.take k.1)).1.c.sides,int (zad O (L.take k.1)).1.c.cap,int (zad O (L.take k.1)).1.c.limit,int (zad O (L.take k.1)).1.c.max,int (zad O (L.take k.1)).1.p.cap,lst ((zad O (L.take k.1)).1.p.hist.map rsC),.own 2177,int (zad O (L.take k.1)).1.lost] 109),(2177,.grp [2178,2179,2180,2181] 110),(2178,.cells ((ndC (zad O (L.take k.1)).1 0).map .d) 117),(2179,.cells ((ndC (zad O (L.take k.1)).1 1).map .d) 117),(2180,.cells ((ndC (zad O (L.take k.1)).1 2).map .d) 117),(2181,.cells ((ndC (zad O (L.take k.1)).1 3).map .d) 117),(2239,.grow 7 (os.map zam++(zad O (L.take k.1)).2.map zam) 67)]) 2944 [] (by constructor<;>simp[zad,hL]) ?_;rintro⟨k,hk1⟩ B hB;refine CI.run 9999 400 rfl ?_;simp[zad,hL];refine sBI (fun h=>?_) (fun h=>?_)
  ·have hk:k<(L).length:=by simpa using h
   obtain⟨x,hx,hr,hm,ht,hd⟩:=inL hk;have hw:=wr (k:=k) (by omega);simp only[h];simp[hr,hw];have u:=zbb (M:=O) (L.take k) q1.1 (fun s h=>hs2 s (List.mem_of_mem_take h));have u2:=zbi (L.take k) O;have u3:(L.take k).length≤60:=by simp;omega
   generalize hQ:zad O (L.take k)=Q at u u2⊢;obtain⟨Q,qs⟩:=Q;simp only at u u2⊢;refine CI.j [2176,2177,2178,2179,2180,2181] (zzm Q x _ (u.2.trans (q1.2.trans hn)) u.1 (by omega) (hs2 x hm)) Tryz.call16 9999 ?_;simp;refine⟨by omega,?_⟩;refine hB _ ⟨k+1,by omega⟩ [] ?_ (by simp;omega);constructor<;>simp[hw,ht,zb7,hQ]
  ·have hkl:k=L.length:=by simp at h;omega
   subst hkl;rw[List.take_length,←List.map_append];subst e;simp only at q3 q4⊢;have z1:=(zbb L q1.1 hs2).2.trans (q1.2.trans hn);generalize os++(zad O L).2=W at q3 q4⊢;generalize(zad O L).1=Z at z1⊢;simp only[h];simp;clear hB;refine CI.cc [1408,1409,1410,1411,1412,1413] (zna Z.c Z.p Z.lost [ndC Z 0,ndC Z 1,ndC Z 2,ndC Z 3] (by simp) (by simp)) Tryz.call17 9999 ?_;simp;refine CI.cc [2176,2177,2178,2179,2180,2181] (zna Z.c Z.p Z.lost [ndC Z 0,ndC Z 1,ndC Z 2,ndC Z 3] (by simp) (by simp)) Tryz.call17 9999 ?_;simp;refine CI.cc [1408,1409,1410,1411,1412,1413] (zhc Z.c Z.p Z.lost [ndC Z 0,ndC Z 1,ndC Z 2,ndC Z 3] (by simp) (by simp)) Tryz.call18 9999 ?_;simp;refine CI.cc [2176,2177,2178,2179,2180,2181] (zhc Z.c Z.p Z.lost [ndC Z 0,ndC Z 1,ndC Z 2,ndC Z 3] (by simp) (by simp)) Tryz.call18 9999 ?_;simp;refine LoopI.U mixed (W) (fun kj=>[(7,bool true),(10,.own 1471),(12,.own 2239),(15,int kj.1)]) (fun kj=>[(1471,.grow 7 (W.map zam) 67),(2239,.grow 7 (W.map zam) 67)]) 6000 [] (by constructor<;>simp) ?_;rintro⟨kj,hk1j⟩ Bj hBj;refine CI.run 9999 400 rfl ?_;simp;refine sBI (fun hj=>?_) (fun hj=>?_)
   ·have hkj:kj<(W).length:=by simpa using hj
    obtain⟨w,hxj,hrj,hmj,htj,hdj⟩:=inL hkj;have hwj:=wr (k:=kj) (by omega);simp only[hj];simp[hrj,hwj];have v:=q4 w hmj;simp[hkj,hrj,hxj];refine CI.p (zva w) Tryz.call20 9999 ?_;simp;simp[hkj,hrj,hxj];refine CI.p (zva w) Tryz.call20 9999 ?_;simp;refine CI.p (znz w (by omega) (by omega)) Tryz.call19 9999 ?_;simp;refine⟨by decide+kernel,?_⟩;refine hBj _ ⟨kj+1,by omega⟩ [] ?_ (by simp;omega);constructor<;>simp[hwj,htj]
   ·have hklj:kj=(W).length:=by simp at hj;omega
    subst hklj;simp only[hj];simp[List.take_length,List.drop_length];first| (refine⟨[],?_,?_,?_,?_,?_,?_,?_⟩<;>simp[nmF,inB];done)| (refine⟨by decide+kernel,?_⟩;refine⟨[],?_,?_,?_,?_,?_,?_,?_⟩<;>simp[nmF,inB])
theorem qkj (c:Cfg)(l:List MStep)(r:Int)(ha:∀s∈l,OkRs s.adds)(hl:l.length≤9223372036854775807)(hf:zc4 l=false):CtJ errG Tryz.prog 4 [st (cfgC c),lst (l.map mstepC),int r] [] [] (bool true) []:=by
 refine CtJ.B errK Tryz.func4 mixed 9999 400 ?_;simp;refine CI.j [] zgp Tryz.call6 9999 ?_;simp;refine CI.p (zjr l ha hl) Tryz.call7 9999 ?_ (ha:=by simp[hf]);simp[hf];first|exact fin0 (by simp[hf]) rfl|exact zaa (by simp[hf])
theorem zyf (c:Cfg)(l:List MStep)(r:Int)(h:l.length≤9223372036854775807∧∀s∈l,OkMA s):CtJ errG Tryz.prog 4 [st (cfgC c),lst (l.map mstepC),int r] [] [] (bool true) []:=by
 have hl:=h.1;have ha:∀s∈l,OkRs s.adds:=fun s hs=>(h.2 s hs).adds;by_cases hf:zc4 l=true
 ·have e:zar c=1∨zar c=2∨zar c=3∨zar c=4:=by unfold zar;omega
  rcases e with e|e|e|e
  ·exact qkn c l r e ha hl hf
  ·exact qkm c l r e ha hl hf
  ·exact qkl c l r e ha hl hf
  ·exact qkk c l r e ha hl hf
 ·exact qkj c l r ha hl (by simpa using hf)
end Go.Proofs.YtekckhepcdndcaaGreatDoor
