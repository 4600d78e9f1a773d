/-
  LAYER 24: what is shown.
-/
import Derived.Test.YtjoaclgkjhncjaaGreatDoorWo
import Derived.Test.YtjoaclgkjhncjaaGreatDoorPt
import Derived.Test.YtjoaclgkjhncjaaGreatDoorWe
import Derived.Test.YtjoaclgkjhncjaaGreatDoorWc
set_option linter.unusedSimpArgs false
set_option linter.unusedVariables false
namespace Go.Proofs.YtjoaclgkjhncjaaGreatDoor
open Go.AI Go.G
set_option maxRecDepth 20000
set_option maxHeartbeats 8000000
attribute [simp] Tryz.ntmps43 Tryz.results43
theorem qwn (l:List Res)(ht:tabE l=0)(hs:zbj l=0):Ct Tryz.prog 43 [lst (l.map resC)] [] [] (bool true) []:=by
 refine Ct.B Tryz.func43 mixed 9999 400 ?_;simp;have tl:=tab_len ht;refine CI.p (zmh l) Tryz.call88 9999 ?_ (ha:=by simp[ht]);simp[ht];refine CI.p (zol l (zcc ht) (by omega)) Tryz.call89 9999 ?_ (ha:=by simp[hs]);simp[hs];first|exact fin0 (by simp) rfl|exact zaa (by simp)
attribute [simp] Tryz.ntmps17 Tryz.results17
theorem qe8 (p:Store)(l:List Res)(hp:OkStore p)(hl:OkRs l)(ht:tabE l=0)(hs:zbj l=0)(hm:zra l=[])(hf:∀r∈l,zku p r.key r.ver=some r):Ct Tryz.prog 17 [st (zbg p),lst (l.map resC)] [] [] (bool true) []:=by
 refine Ct.B Tryz.func17 mixed 9999 400 ?_;simp;have tl:=tab_len ht;refine CI.p (qwn l ht hs) Tryz.call43 9999 ?_;simp;refine CI.p (zwz l (by omega)) Tryz.call44 9999 ?_ (ha:=by simp[hm]);simp[hm];refine LoopI.U mixed (l) (fun k=>[(1,lst (l.map resC)),(2,.ptr 64 0),(5,int k.1)]) (fun k=>[(64,.cells ((zbg p).map .d) 75)]) 65 [] (by constructor<;>simp) ?_;rintro⟨k,hk1⟩ B hB;refine CI.run 9999 400 rfl ?_;simp;refine sBI (fun h=>?_) (fun h=>?_)
 ·have hk:k<(l).length:=by simpa using h
  obtain⟨r,hx,hr,hm,ht,hd⟩:=inL hk;have hw:=wr (k:=k) (by omega);simp only[h];simp[hr,hw];have h1:=hf r hm;refine CI.p (zfr r) Tryz.call46 9999 ?_ (ha:=by simp[hr]);simp[hr];refine CI.p (qo9 p r.key r.ver hp) Tryz.call45 9999 ?_ (ha:=by simp[h1,hr]);simp[h1,hr];refine⟨by decide+kernel,?_⟩;refine CI.p (qa5 r r (hl.all r hm)) Tryz.call47 9999 ?_ (ha:=by simp[hr]);simp[hr];refine⟨by decide+kernel,?_⟩;refine hB _ ⟨k+1,by omega⟩ [] ?_ (by simp;omega);constructor<;>simp[hw,ht]
 ·have hkl:k=(l).length:=by simp at h;omega
  subst hkl;simp only[h];simp[List.take_length,List.drop_length];first|exact fin0 (by simp) rfl|exact zaa (by simp)
attribute [simp] Tryz.ntmps19 Tryz.results19
theorem qsp (s:Side)(l:List Res)(hc:s.w.c.l.length≤1000)(hl:l.length≤1000)(hkk:∀r∈l,r.kind≠0→(getR s.w.c.l r.key).isSome=true):Ct Tryz.prog 19 [st (zc1 s),lst (l.map resC)] [] [] (bool true) []:=by
 refine Ct.B Tryz.func19 mixed 9999 400 ?_;simp;refine LoopI.U mixed (l) (fun k=>[(1,lst (l.map resC)),(2,.ptr 64 0),(5,int k.1)]) (fun k=>[(64,.cells ((zc1 s).map .d) 60)]) 65 [] (by constructor<;>simp) ?_;rintro⟨k,hk1⟩ B hB;refine CI.run 9999 400 rfl ?_;simp;refine sBI (fun h=>?_) (fun h=>?_)
 ·have hk:k<(l).length:=by simpa using h
  obtain⟨r,hx,hr,hm,ht,hd⟩:=inL hk;have hw:=wr (k:=k) (by omega);simp only[h];simp[hr,hw];have h1:=hkk r hm;refine CI.p (zfr r) Tryz.call46 9999 ?_ (ha:=by simp[hr]);simp[hr];refine CI.p (qee s.w.c.l r.key (by omega)) Tryz.call15 9999 ?_ (ha:=by simp[hr]);simp[hr];refine⟨by decide+kernel,?_⟩;cases hg:getR s.w.c.l r.key with
  |some x=>
   simp[hg];refine hB _ ⟨k+1,by omega⟩ [] ?_ (by simp;omega);constructor<;>simp[hw,ht]
  |none=>
   have hz:r.kind=0:=Decidable.byContradiction fun e=>by rw[hg]at h1;cases h1 e
   simp[hg,hz,hr];refine hB _ ⟨k+1,by omega⟩ [] ?_ (by simp;omega);constructor<;>simp[hw,ht]
 ·have hkl:k=(l).length:=by simp at h;omega
  subst hkl;simp only[h];simp[List.take_length,List.drop_length];first|exact fin0 (by simp) rfl|exact zaa (by simp)
theorem qqs (c:Cfg)(l:List MStep)(ha:∀s∈l,OkRs s.adds)(hl:l.length≤9223372036854775807)(hf:zdj l=true):CtJ errG Tryz.prog 4 [st (cfgC c),lst (l.map zaf)] [] [] (bool true) []:=by
 obtain⟨h60,hs⟩:=zoq hf;rcases zpk c with hk|hk|hk|hk
 all_goals
  refine CtJ.B errK Tryz.func4 mixed 9999 400 ?_;simp;refine CI.j [] zi8 Tryz.call7 9999 ?_;simp;refine CI.p (znv l ha hl) Tryz.call8 9999 ?_ (ha:=by simp[hf]);simp[hf];refine CI.p (zo0 c) Tryz.call10 9999 ?_;simp;refine CI.cc [] (qbs c) Tryz.call9 9999 ?_ (ha:=by simp[hk,ndL]) (hn:=by constructor<;>simp[nmOk,hk,ndL]) (hk:=by simp[hk,ndL]);simp[hk,ndL];refine CI.p (zs7 l (by omega)) Tryz.call11 9999 ?_;simp;refine LoopI.U mixed (l) (fun km=>[(5,bool true),(6,.ptr 640 0),(7,lst (l.map zaf)),(8,int km.1)]) (fun km=>BD 640 (zb8 (newM c) (l.take km.1)).1 (ndL (zb8 (newM c) (l.take km.1)).1 0 (zaj c))) 1024 [] (by constructor<;>simp[hk,ndL,zgm]) ?_;rintro⟨km,hk1m⟩ Bm hBm;refine CI.run 9999 400 rfl ?_;simp[hk,ndL,zgm];refine sBI (fun hm=>?_) (fun hm=>?_)
  ·have hkm:km<(l).length:=by simpa using hm
   obtain⟨s,hxm,hrm,hmm,htm,hdm⟩:=inL hkm;have hwm:=wr (k:=km) (by omega);simp only[hm];simp[hrm,hwm];have okl:∀s∈l.take km,OkSt s:=fun s hm=>hs s (List.mem_of_mem_take hm);have q:=zfo (M:=newM c) (l.take km) (OkM.new c) okl;have hq:(l.take km).length≤60:=by simp;omega
   have hl4:zaj c≤4:=by omega
   have hn:(newM c).ns.length=zaj c:=by simp[newM]
   have okm:∀y∈l.take km++[s],OkSt y:=fun y hy=>(List.mem_append.1 hy).elim (okl y) fun g=>by rw[List.mem_singleton.1 g];exact hs s hmm
   have pj:=fun i n hn=>zjh c (l:=l.take km++[s]) (by simp;omega) okm (i:=i) (n:=n) hn
   have ps:=congrArg Prod.fst (zd0 s (l.take km) (newM c));have ok:=q.1.step (hs s hmm);have sl:=(stepM_len q.1 s).trans (q.2.trans hn);simp only at ps;rw[ps]at pj;refine CI.j [640,641,642,643,644,645] (zs8 (zb8 (newM c) (l.take km)).1 s _ (q.2.trans hn) q.1 (by omega) (hs s hmm)) Tryz.call12 9999 ?_ (ha:=by simp[hk,ndL]) (hn:=by constructor<;>simp[nmOk,hk,ndL]) (hk:=by simp[hk,ndL]);simp[hk,ndL];generalize(zb8 (newM c) (l.take km)).1=M at ps ok sl pj⊢;generalize(za2 M s).1=N at ps ok sl pj⊢;have hp:=ok.p;have okst:OkStore N.p:=ok_store hp;refine LoopI.inv mixed rfl (ι:={k:Nat//k≤zaj c}) (fun k=>[(5,bool true),(6,.ptr 640 0),(7,lst (l.map zaf)),(8,int km),(9,int k.1)]) (fun k=>BD 640 N (ndL N 0 (zaj c))) 2240 (fun k=>zaj c-k.1) ⟨0,by omega⟩ [] (by constructor<;>simp[hk,ndL]) ?_;rintro⟨i,hi⟩ B hB;refine CI.run 9999 400 rfl ?_;simp;refine CI.cc [640,641,642,643,644,645] (zfa N.c N.p N.lost (ndL N 0 (zaj c)) (by rw[zdp];omega) (by rw[zdp];omega)) Tryz.call16 9999 ?_ (ha:=by simp[hk,ndL]) (hn:=by constructor<;>simp[nmOk,hk,ndL]) (hk:=by simp[hk,ndL]);simp[hk,ndL];refine sBI (fun h1=>?_) (fun h1=>?_)<;>simp only[h1]<;>simp<;>(try simp only[nT,nF,dT,dF]at h1)
   ·have hi':i<zaj c:=by omega
    obtain⟨n,hn1⟩:∃n,N.ns[i]? =some n:=⟨_,List.getElem?_eq_getElem (by omega)⟩;have on:=ok.ok n (List.mem_of_getElem? hn1);have pi:=pj i n hn1;have hd:=qmh sl hn1;have wi:IntKind.wrap .i64 ((i:Int)+1)=i+1:=zab (by omega) (by omega);refine CI.cc [640,641,642,643,644,645] (qa0 N.c N.p N.lost (ndL N 0 (zaj c)) i i n (by rw[zdp];omega) hd rfl) Tryz.call13 9999 ?_ (ha:=by simp[hk,ndL]) (hn:=by constructor<;>simp[nmOk,hk,ndL]) (hk:=by simp[hk,ndL]);simp[hk,ndL];have sh:=fun q hq=>quv pi.2 hp (q:=q) hq;have oks:=on.d.x.snaps;have okc:=on.d.x.cl;have sln:=on.d.x.sl;generalize hS:n.side=S at sh oks okc sln⊢;refine LoopI.U mixed (S.p.snaps) (fun kj=>[(5,bool true),(6,.ptr 640 0),(7,lst (l.map zaf)),(8,int km),(9,int i),(10,.ptr 2880 0),(12,int kj.1)]) (fun kj=>BD 640 N (ndL N 0 (zaj c))++[(2880,.cells ((zc1 S).map .d) 60)]) 3200 [] (by constructor<;>simp[hk,ndL]) ?_;rintro⟨kj,hk1j⟩ Bj hBj;refine CI.run 9999 400 rfl ?_;simp[hk,ndL];refine sBI (fun hj=>?_) (fun hj=>?_)
    ·have hkj:kj<(S.p.snaps).length:=by simpa using hj
     obtain⟨y,hxj,hrj,hmj,htj,hdj⟩:=inL hkj;have hwj:=wr (k:=kj) (by omega);simp only[hj];simp[hrj,hwj];obtain⟨s1,s2,s3,s4,s5⟩:=sh y hmj;obtain⟨o1,o2⟩:=oks y hmj;refine CI.cc [640,641,642,643,644,645] (zyv N.c N.p N.lost (ndL N 0 (zaj c)) (by rw[zdp];omega) (by rw[zdp];omega)) Tryz.call18 9999 ?_ (ha:=by simp[hk,ndL,hrj]) (hn:=by constructor<;>simp[nmOk,hk,ndL,hrj]) (hk:=by simp[hk,ndL,hrj]);simp[hk,ndL,hrj];refine CI.p (qe8 N.p y.l okst o1 s1 s2 s3 s4) Tryz.call17 9999 ?_ (ha:=by simp[hrj]);simp[hrj];refine CI.p (qsp S y.l okc (by omega) s5) Tryz.call19 9999 ?_ (ha:=by simp[hrj]);simp[hrj];refine⟨by decide+kernel,?_⟩;refine hBj _ ⟨kj+1,by omega⟩ [] ?_ (by simp;omega);constructor<;>simp[hwj,htj,hk,ndL]
    ·have hklj:kj=(S.p.snaps).length:=by simp at hj;omega
     subst hklj;simp only[hj];simp[List.take_length,List.drop_length];refine hB _ ⟨i+1,by omega⟩ [] ?_ (by simp;omega);constructor<;>simp[wi,hk,ndL]
   ·refine hBm _ ⟨km+1,by omega⟩ [] ?_ (by simp;omega);constructor<;>simp[hwm,htm,ps,hk,ndL]
  ·have hklm:km=(l).length:=by simp at hm;omega
   subst hklm;simp only[hm];simp[List.take_length,List.drop_length];first| (refine⟨[],?_,?_,?_,?_,?_,?_,?_⟩<;>simp[nmF,inB];done)| (refine⟨by decide+kernel,?_⟩;refine⟨[],?_,?_,?_,?_,?_,?_,?_⟩<;>simp[nmF,inB])
attribute [simp] Tryz.ntmps4 Tryz.results4
theorem qlc (c:Cfg)(l:List MStep)(ha:∀s∈l,OkRs s.adds)(hl:l.length≤9223372036854775807)(hf:zdj l=false):CtJ errG Tryz.prog 4 [st (cfgC c),lst (l.map zaf)] [] [] (bool true) []:=by
 refine CtJ.B errK Tryz.func4 mixed 9999 400 ?_;simp;refine CI.j [] zi8 Tryz.call7 9999 ?_;simp;refine CI.p (znv l ha hl) Tryz.call8 9999 ?_ (ha:=by simp[hf]);simp[hf];first|exact fin0 (by simp[hf]) rfl|exact zaa (by simp[hf])
theorem zzj (c:Cfg)(l:List MStep)(h:l.length≤9223372036854775807∧∀s∈l,OkMA s):CtJ errG Tryz.prog 4 [st (cfgC c),lst (l.map zaf)] [] [] (bool true) []:=by
 have hl:=h.1;have ha:∀s∈l,OkRs s.adds:=fun s hs=>(h.2 s hs).adds;by_cases hf:zdj l=true
 ·exact qqs c l ha hl hf
 ·exact qlc c l ha hl (by simpa using hf)
end Go.Proofs.YtjoaclgkjhncjaaGreatDoor
