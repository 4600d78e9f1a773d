/-
  LAYER 24: what is taken away.
-/
import Derived.Test.YtjoaclgkjhncjaaGreatDoorWo
import Derived.Test.YtjoaclgkjhncjaaGreatDoorPt
set_option linter.unusedSimpArgs false
set_option linter.unusedVariables false
namespace Go.Proofs.YtjoaclgkjhncjaaGreatDoor
open Go.AI Go.G
set_option maxRecDepth 20000
set_option maxHeartbeats 8000000
theorem qnm (c:Cfg)(l:List MStep)(ha:∀s∈l,OkRs s.adds)(hl:l.length≤9223372036854775807)(hf:zdj l=true):CtJ errG Tryz.prog 5 [st (cfgC c),lst (l.map zaf)] [] [] (bool true) []:=by
 obtain⟨h60,hs⟩:=zoq hf;rcases zpk c with hk|hk|hk|hk
 all_goals
  refine CtJ.B errK Tryz.func5 mixed 9999 400 ?_;simp;refine CI.j [] zi8 Tryz.call7 9999 ?_;simp;refine CI.p (znv l ha hl) Tryz.call8 9999 ?_ (ha:=by simp[hf]);simp[hf];refine CI.p (zo0 c) Tryz.call10 9999 ?_;simp;refine CI.cc [] (qbs c) Tryz.call9 9999 ?_ (ha:=by simp[hk,ndL]) (hn:=by constructor<;>simp[nmOk,hk,ndL]) (hk:=by simp[hk,ndL]);simp[hk,ndL];refine CI.p (zs7 l (by omega)) Tryz.call11 9999 ?_;simp;refine LoopI.U mixed (l) (fun km=>[(5,bool true),(6,.ptr 640 0),(7,lst (l.map zaf)),(8,int km.1)]) (fun km=>BD 640 (zb8 (newM c) (l.take km.1)).1 (ndL (zb8 (newM c) (l.take km.1)).1 0 (zaj c))) 1024 [] (by constructor<;>simp[hk,ndL,zgm]) ?_;rintro⟨km,hk1m⟩ Bm hBm;refine CI.run 9999 400 rfl ?_;simp[hk,ndL,zgm];refine sBI (fun hm=>?_) (fun hm=>?_)
  ·have hkm:km<(l).length:=by simpa using hm
   obtain⟨s,hxm,hrm,hmm,htm,hdm⟩:=inL hkm;have hwm:=wr (k:=km) (by omega);simp only[hm];simp[hrm,hwm];have okl:∀s∈l.take km,OkSt s:=fun s hm=>hs s (List.mem_of_mem_take hm);have q:=zfo (M:=newM c) (l.take km) (OkM.new c) okl;have hq:(l.take km).length≤60:=by simp;omega
   have hl4:zaj c≤4:=by omega
   have hn:(newM c).ns.length=zaj c:=by simp[newM]
   have okm:∀y∈l.take km++[s],OkSt y:=fun y hy=>(List.mem_append.1 hy).elim (okl y) fun g=>by rw[List.mem_singleton.1 g];exact hs s hmm
   have pj:=fun i n hn=>zjh c (l:=l.take km++[s]) (by simp;omega) okm (i:=i) (n:=n) hn
   have ps:=congrArg Prod.fst (zd0 s (l.take km) (newM c));have ok:=q.1.step (hs s hmm);have sl:=(stepM_len q.1 s).trans (q.2.trans hn);simp only at ps;rw[ps]at pj;refine CI.j [640,641,642,643,644,645] (zs8 (zb8 (newM c) (l.take km)).1 s _ (q.2.trans hn) q.1 (by omega) (hs s hmm)) Tryz.call12 9999 ?_ (ha:=by simp[hk,ndL]) (hn:=by constructor<;>simp[nmOk,hk,ndL]) (hk:=by simp[hk,ndL]);simp[hk,ndL];generalize(zb8 (newM c) (l.take km)).1=M at ps ok sl pj⊢;generalize(za2 M s).1=N at ps ok sl pj⊢;refine LoopI.inv mixed rfl (ι:={k:Nat//k≤zaj c}) (fun k=>[(5,bool true),(6,.ptr 640 0),(7,lst (l.map zaf)),(8,int km),(9,int k.1)]) (fun k=>BD 640 N (ndL N 0 (zaj c))) 2240 (fun k=>zaj c-k.1) ⟨0,by omega⟩ [] (by constructor<;>simp[hk,ndL]) ?_;rintro⟨i,hi⟩ B hB;refine CI.run 9999 400 rfl ?_;simp;refine CI.cc [640,641,642,643,644,645] (zfa N.c N.p N.lost (ndL N 0 (zaj c)) (by rw[zdp];omega) (by rw[zdp];omega)) Tryz.call16 9999 ?_ (ha:=by simp[hk,ndL]) (hn:=by constructor<;>simp[nmOk,hk,ndL]) (hk:=by simp[hk,ndL]);simp[hk,ndL];refine sBI (fun h1=>?_) (fun h1=>?_)<;>simp only[h1]<;>simp<;>(try simp only[nT,nF,dT,dF]at h1)
   ·have hi':i<zaj c:=by omega
    obtain⟨n,hn1⟩:∃n,N.ns[i]? =some n:=⟨_,List.getElem?_eq_getElem (by omega)⟩;have on:=ok.ok n (List.mem_of_getElem? hn1);have pi:=pj i n hn1;have hd:=qmh sl hn1;have wi:IntKind.wrap .i64 ((i:Int)+1)=i+1:=zab (by omega) (by omega);refine CI.cc [640,641,642,643,644,645] (qa0 N.c N.p N.lost (ndL N 0 (zaj c)) i i n (by rw[zdp];omega) hd rfl) Tryz.call13 9999 ?_ (ha:=by simp[hk,ndL]) (hn:=by constructor<;>simp[nmOk,hk,ndL]) (hk:=by simp[hk,ndL]);simp[hk,ndL];refine CI.cc [640,641,642,643,644,645] (qom N.c N.p N.lost (ndL N 0 (zaj c)) i i n (by rw[zdp];omega) hd rfl) Tryz.call20 9999 ?_ (ha:=by simp[hk,ndL]) (hn:=by constructor<;>simp[nmOk,hk,ndL]) (hk:=by simp[hk,ndL]);simp[hk,ndL];refine CI.p (zxk n.side.p on.d.x.pins) Tryz.call21 9999 ?_;simp;have hlen:=zow on.d.x.pins;by_cases hc:n.sess.v.open_=true∧n.sess.v.push.kind≠0
    ·have dr:=qw4 pi.2 pi.1.xs hc.1 hc.2;obtain⟨ho,hz⟩:=hc;have gl:n.sess.v.push.gone.length≤1000:=by
      have:=qao on.ss ho;have:=(frameE_zero.1 this.2.1).small;simp only[zcn,Bool.and_eq_true,decide_eq_true_eq]at this;omega
     generalize zcw n.side.p=Hd at dr hlen⊢;refine LoopI.inv mixed rfl (ι:={k:Nat//k≤n.sess.v.push.gone.length}) (fun k=>[(5,bool true),(6,.ptr 640 0),(7,lst (l.map zaf)),(8,int km),(9,int i),(12,.ptr 3456 0),(14,lst (Hd.map keyC)),(15,.ptr 4096 0),(16,int k.1)]) (fun k=>BD 640 N (ndL N 0 (zaj c))++[(3456,.cells ((zfb n.sess).map .d) 90),(4096,.cells ((zam n.sess.v.push).map .d) 86)]) 4352 (fun k=>n.sess.v.push.gone.length-k.1) ⟨0,by omega⟩ [] (by constructor<;>simp[hk,ndL]) ?_;rintro⟨g,hg⟩ Bg hBg;refine CI.run 9999 400 rfl ?_;simp[ho,hz,hk,ndL];refine sGI (fun h2=>?_) (fun h2=>?_)<;>simp only[h2]<;>simp[ho,hz,hk,ndL]<;>(try simp only[nT,nF,dT,dF]at h2)
     ·have hg':g<n.sess.v.push.gone.length:=by omega
      have wg:IntKind.wrap .i64 ((g:Int)+1)=g+1:=zab (by omega) (by omega);obtain⟨x,hx⟩:∃x,n.sess.v.push.gone[g]? =some x:=⟨_,List.getElem?_eq_getElem hg'⟩;have xn:=dr x (List.mem_of_getElem? hx);refine LoopI.U mixed (Hd) (fun kj=>[(5,bool true),(6,.ptr 640 0),(7,lst (l.map zaf)),(8,int km),(9,int i),(12,.ptr 3456 0),(14,lst (Hd.map keyC)),(15,.ptr 4096 0),(16,int g),(17,int kj.1)]) (fun kj=>BD 640 N (ndL N 0 (zaj c))++[(3456,.cells ((zfb n.sess).map .d) 90),(4096,.cells ((zam n.sess.v.push).map .d) 86)]) 4736 [] (by constructor<;>simp[hk,ndL,ho]) ?_;rintro⟨kj,hk1j⟩ Bj hBj;refine CI.run 9999 400 rfl ?_;simp[hk,ndL,ho];refine sBI (fun hj=>?_) (fun hj=>?_)
      ·have hkj:kj<(Hd).length:=by simpa using hj
       obtain⟨y,hxj,hrj,hmj,htj,hdj⟩:=inL hkj;have hwj:=wr (k:=kj) (by omega);simp only[hj];simp[hrj,hwj];have yx:¬y=x:=fun e=>xn (e▸hmj);simp[hrj,hx,yx,hk,ndL,ho];refine⟨by decide+kernel,?_⟩;have ye:(decide (y.kind=x.kind)&&decide (y.name=x.name))=false:=by
        rw[←Bool.not_eq_true,Bool.and_eq_true,decide_eq_true_eq,decide_eq_true_eq];rintro⟨e1,e2⟩;exact yx (by obtain⟨a,b⟩:=y;obtain⟨a',b'⟩:=x;simp only at e1 e2;rw[e1,e2])
       simp[ye];refine hBj _ ⟨kj+1,by omega⟩ [] ?_ (by simp;omega);constructor<;>simp[hwj,htj,hk,ndL,ho]
      ·have hklj:kj=(Hd).length:=by simp at hj;omega
       subst hklj;simp only[hj];simp[List.take_length,List.drop_length];refine hBg _ ⟨g+1,by omega⟩ [] ?_ (by simp;omega);constructor<;>simp[wg,hk,ndL,ho]
     ·refine hB _ ⟨i+1,by omega⟩ [] ?_ (by simp;omega);constructor<;>simp[wi,hk,ndL]
    ·refine LoopI.unroll mixed (Plain.retC _ _ _ _ _) rfl ?_;refine CI.run 9999 400 rfl ?_;simp[hk,ndL];refine sGI (fun h2=>?_) (fun h2=>?_)<;>simp only[h2]<;>simp[hk,ndL]<;>(try simp only[nT,nF,dT,dF]at h2)
     ·by_cases ho:n.sess.v.open_=true
      ·have hz:n.sess.v.push.kind=0:=by
        cases Decidable.em (n.sess.v.push.kind=0)with
        |inl e=>exact e
        |inr e=>exact absurd ⟨ho,e⟩ hc
       simp[ho,hz,hk,ndL];refine hB _ ⟨i+1,by omega⟩ [] ?_ (by simp;omega);constructor<;>simp[wi,hk,ndL]
      ·simp[ho,hk,ndL];refine hB _ ⟨i+1,by omega⟩ [] ?_ (by simp;omega);constructor<;>simp[wi,hk,ndL]
     ·refine hB _ ⟨i+1,by omega⟩ [] ?_ (by simp;omega);constructor<;>simp[wi,hk,ndL]
   ·refine hBm _ ⟨km+1,by omega⟩ [] ?_ (by simp;omega);constructor<;>simp[hwm,htm,ps,hk,ndL]
  ·have hklm:km=(l).length:=by simp at hm;omega
   subst hklm;simp only[hm];simp[List.take_length,List.drop_length];first| (refine⟨[],?_,?_,?_,?_,?_,?_,?_⟩<;>simp[nmF,inB];done)| (refine⟨by decide+kernel,?_⟩;refine⟨[],?_,?_,?_,?_,?_,?_,?_⟩<;>simp[nmF,inB])
attribute [simp] Tryz.ntmps5 Tryz.results5
theorem qjt (c:Cfg)(l:List MStep)(ha:∀s∈l,OkRs s.adds)(hl:l.length≤9223372036854775807)(hf:zdj l=false):CtJ errG Tryz.prog 5 [st (cfgC c),lst (l.map zaf)] [] [] (bool true) []:=by
 refine CtJ.B errK Tryz.func5 mixed 9999 400 ?_;simp;refine CI.j [] zi8 Tryz.call7 9999 ?_;simp;refine CI.p (znv l ha hl) Tryz.call8 9999 ?_ (ha:=by simp[hf]);simp[hf];first|exact fin0 (by simp[hf]) rfl|exact zaa (by simp[hf])
theorem zw0 (c:Cfg)(l:List MStep)(h:l.length≤9223372036854775807∧∀s∈l,OkMA s):CtJ errG Tryz.prog 5 [st (cfgC c),lst (l.map zaf)] [] [] (bool true) []:=by
 have hl:=h.1;have ha:∀s∈l,OkRs s.adds:=fun s hs=>(h.2 s hs).adds;by_cases hf:zdj l=true
 ·exact qnm c l ha hl hf
 ·exact qjt c l ha hl (by simpa using hf)
end Go.Proofs.YtjoaclgkjhncjaaGreatDoor
