/-
  LAYER 24: who is settled.
-/
import Derived.Test.YtjoaclgkjhncjaaGreatDoorWo
import Derived.Test.YtjoaclgkjhncjaaGreatDoorPt
set_option linter.unusedSimpArgs false
set_option linter.unusedVariables false
namespace Go.Proofs.YtjoaclgkjhncjaaGreatDoor
open Go.AI Go.G
set_option maxRecDepth 20000
set_option maxHeartbeats 8000000
theorem qpl (c:Cfg)(l:List MStep)(ha:∀s∈l,OkRs s.adds)(hl:l.length≤9223372036854775807)(hf:zdj l=true):CtJ errG Tryz.prog 6 [st (cfgC c),lst (l.map zaf)] [] [] (bool true) []:=by
 obtain⟨h60,hs⟩:=zoq hf;rcases zpk c with hk|hk|hk|hk
 all_goals
  refine CtJ.B errK Tryz.func6 mixed 9999 400 ?_;simp;refine CI.j [] zi8 Tryz.call7 9999 ?_;simp;refine CI.p (znv l ha hl) Tryz.call8 9999 ?_ (ha:=by simp[hf]);simp[hf];refine CI.p (zo0 c) Tryz.call10 9999 ?_;simp;refine CI.cc [] (qbs c) Tryz.call9 9999 ?_ (ha:=by simp[hk,ndL]) (hn:=by constructor<;>simp[nmOk,hk,ndL]) (hk:=by simp[hk,ndL]);simp[hk,ndL];refine CI.p (zs7 l (by omega)) Tryz.call11 9999 ?_;simp;refine LoopI.U mixed (l) (fun km=>[(5,bool true),(6,.ptr 640 0),(7,lst (l.map zaf)),(8,int km.1)]) (fun km=>BD 640 (zb8 (newM c) (l.take km.1)).1 (ndL (zb8 (newM c) (l.take km.1)).1 0 (zaj c))) 1024 [] (by constructor<;>simp[hk,ndL,zgm]) ?_;rintro⟨km,hk1m⟩ Bm hBm;refine CI.run 9999 400 rfl ?_;simp[hk,ndL,zgm];refine sBI (fun hm=>?_) (fun hm=>?_)
  ·have hkm:km<(l).length:=by simpa using hm
   obtain⟨s,hxm,hrm,hmm,htm,hdm⟩:=inL hkm;have hwm:=wr (k:=km) (by omega);simp only[hm];simp[hrm,hwm];have okl:∀s∈l.take km,OkSt s:=fun s hm=>hs s (List.mem_of_mem_take hm);have q:=zfo (M:=newM c) (l.take km) (OkM.new c) okl;have hq:(l.take km).length≤60:=by simp;omega
   have hl4:zaj c≤4:=by omega
   have hn:(newM c).ns.length=zaj c:=by simp[newM]
   have okm:∀y∈l.take km++[s],OkSt y:=fun y hy=>(List.mem_append.1 hy).elim (okl y) fun g=>by rw[List.mem_singleton.1 g];exact hs s hmm
   have pj:=fun i n hn=>zjh c (l:=l.take km++[s]) (by simp;omega) okm (i:=i) (n:=n) hn
   have ps:=congrArg Prod.fst (zd0 s (l.take km) (newM c));have ok:=q.1.step (hs s hmm);have sl:=(stepM_len q.1 s).trans (q.2.trans hn);simp only at ps;rw[ps]at pj;refine CI.j [640,641,642,643,644,645] (zs8 (zb8 (newM c) (l.take km)).1 s _ (q.2.trans hn) q.1 (by omega) (hs s hmm)) Tryz.call12 9999 ?_ (ha:=by simp[hk,ndL]) (hn:=by constructor<;>simp[nmOk,hk,ndL]) (hk:=by simp[hk,ndL]);simp[hk,ndL];generalize(zb8 (newM c) (l.take km)).1=M at ps ok sl pj⊢;generalize(za2 M s).1=N at ps ok sl pj⊢;have hp:=ok.p;have hlen:N.p.hist.length≤1000000:=by have:=(zcd N.p).1 hp;omega
   have tab:=zp8 hp;refine CI.cc [640,641,642,643,644,645] (zyv N.c N.p N.lost (ndL N 0 (zaj c)) (by rw[zdp];omega) (by rw[zdp];omega)) Tryz.call18 9999 ?_ (ha:=by simp[hk,ndL]) (hn:=by constructor<;>simp[nmOk,hk,ndL]) (hk:=by simp[hk,ndL]);simp[hk,ndL];refine CI.p (ztx N.p hlen) Tryz.call22 9999 ?_;simp;refine LoopI.inv mixed rfl (ι:={k:Nat//k≤zaj c}) (fun k=>[(5,bool true),(6,.ptr 640 0),(7,lst (l.map zaf)),(8,int km),(10,lst ((nowL N.p).map resC)),(11,int k.1)]) (fun k=>BD 640 N (ndL N 0 (zaj c))) 2240 (fun k=>zaj c-k.1) ⟨0,by omega⟩ [] (by constructor<;>simp[hk,ndL,nowL]) ?_;rintro⟨i,hi⟩ B hB;refine CI.run 9999 400 rfl ?_;simp;refine CI.cc [640,641,642,643,644,645] (zfa N.c N.p N.lost (ndL N 0 (zaj c)) (by rw[zdp];omega) (by rw[zdp];omega)) Tryz.call16 9999 ?_ (ha:=by simp[hk,ndL]) (hn:=by constructor<;>simp[nmOk,hk,ndL]) (hk:=by simp[hk,ndL]);simp[hk,ndL];refine sBI (fun h1=>?_) (fun h1=>?_)<;>simp only[h1]<;>simp<;>(try simp only[nT,nF,dT,dF]at h1)
   ·have hi':i<zaj c:=by omega
    obtain⟨n,hn1⟩:∃n,N.ns[i]? =some n:=⟨_,List.getElem?_eq_getElem (by omega)⟩;have on:=ok.ok n (List.mem_of_getElem? hn1);have pi:=pj i n hn1;have hd:=qmh sl hn1;refine CI.cc [640,641,642,643,644,645] (qa0 N.c N.p N.lost (ndL N 0 (zaj c)) i i n (by rw[zdp];omega) hd rfl) Tryz.call13 9999 ?_ (ha:=by simp[hk,ndL]) (hn:=by constructor<;>simp[nmOk,hk,ndL]) (hk:=by simp[hk,ndL]);simp[hk,ndL];refine CI.cc [640,641,642,643,644,645] (qom N.c N.p N.lost (ndL N 0 (zaj c)) i i n (by rw[zdp];omega) hd rfl) Tryz.call20 9999 ?_ (ha:=by simp[hk,ndL]) (hn:=by constructor<;>simp[nmOk,hk,ndL]) (hk:=by simp[hk,ndL]);simp[hk,ndL];refine CI.cc [640,641,642,643,644,645] (zyv N.c N.p N.lost (ndL N 0 (zaj c)) (by rw[zdp];omega) (by rw[zdp];omega)) Tryz.call18 9999 ?_ (ha:=by simp[hk,ndL]) (hn:=by constructor<;>simp[nmOk,hk,ndL]) (hk:=by simp[hk,ndL]);simp[hk,ndL];have hv:=(saneS_iff.1 on.ss);have hvl:=hv.hl;have hdl:=hv.dl;have wi:IntKind.wrap .i64 ((i:Int)+1)=i+1:=zab (by omega) (by omega);refine CI.p (zpl n.sess N.p on.so (by omega) hlen) Tryz.call23 9999 ?_;simp;refine⟨by decide+kernel,?_⟩;cases hset:zfl n.sess N.p with
    |false=>
     simp[hset];refine hB _ ⟨i+1,by omega⟩ [] ?_ (by simp;omega);constructor<;>simp[wi,hk,ndL]
    |true=>
     obtain⟨w1,w2,w3,w4⟩:=qxr pi.2 hp on pi.1.xs hset;have tl:=tab_len tab;have okw:OkRs (nowL N.p):=qhr tab;have asc:=zcc tab;unfold zj1 at w3;simp[hset,w1];refine CI.p (qh7 (nowL N.p) (nowL N.p) n.sess.v.held okw (by omega) (by omega) asc (by omega)) Tryz.call24 9999 ?_ (ha:=by simp[w4]);simp[w4];refine CI.p (ztf n.side on.d.x) Tryz.call14 9999 ?_ (ha:=by simp[w3]);simp[w3];simp[w2];refine CI.p (zg4 (nowL N.p) (nowL N.p) okw) Tryz.call25 9999 ?_;simp;refine CI.p (ztn (nowL N.p) asc (by omega)) Tryz.call27 9999 ?_;simp;refine CI.p (qyp (zau (nowL N.p)) (zau (nowL N.p)) (zwq okw _)) Tryz.call26 9999 ?_;simp;refine hB _ ⟨i+1,by omega⟩ [] ?_ (by simp;omega);constructor<;>simp[wi,hk,ndL]
   ·refine hBm _ ⟨km+1,by omega⟩ [] ?_ (by simp;omega);constructor<;>simp[hwm,htm,ps,hk,ndL]
  ·have hklm:km=(l).length:=by simp at hm;omega
   subst hklm;simp only[hm];simp[List.take_length,List.drop_length];first| (refine⟨[],?_,?_,?_,?_,?_,?_,?_⟩<;>simp[nmF,inB];done)| (refine⟨by decide+kernel,?_⟩;refine⟨[],?_,?_,?_,?_,?_,?_,?_⟩<;>simp[nmF,inB])
attribute [simp] Tryz.ntmps6 Tryz.results6
theorem qkr (c:Cfg)(l:List MStep)(ha:∀s∈l,OkRs s.adds)(hl:l.length≤9223372036854775807)(hf:zdj l=false):CtJ errG Tryz.prog 6 [st (cfgC c),lst (l.map zaf)] [] [] (bool true) []:=by
 refine CtJ.B errK Tryz.func6 mixed 9999 400 ?_;simp;refine CI.j [] zi8 Tryz.call7 9999 ?_;simp;refine CI.p (znv l ha hl) Tryz.call8 9999 ?_ (ha:=by simp[hf]);simp[hf];first|exact fin0 (by simp[hf]) rfl|exact zaa (by simp[hf])
theorem zzi (c:Cfg)(l:List MStep)(h:l.length≤9223372036854775807∧∀s∈l,OkMA s):CtJ errG Tryz.prog 6 [st (cfgC c),lst (l.map zaf)] [] [] (bool true) []:=by
 have hl:=h.1;have ha:∀s∈l,OkRs s.adds:=fun s hs=>(h.2 s hs).adds;by_cases hf:zdj l=true
 ·exact qpl c l ha hl hf
 ·exact qkr c l ha hl (by simpa using hf)
end Go.Proofs.YtjoaclgkjhncjaaGreatDoor
