/-
  LAYER 24: the walk of MeshSends.
-/
import Derived.Test.YtekckhepcdndcaaGreatDoorWp
import Derived.Test.YtekckhepcdndcaaGreatDoorWo
import Derived.Test.YtekckhepcdndcaaGreatDoorWn
import Derived.Test.YtekckhepcdndcaaGreatDoorPt
set_option linter.unusedSimpArgs false
set_option linter.unusedVariables false
namespace Go.Proofs.YtekckhepcdndcaaGreatDoor
open Go.AI Go.G
set_option maxRecDepth 20000
set_option maxHeartbeats 8000000
attribute [simp] Tryz.ntmps3 Tryz.results3
theorem qps (c:Cfg)(l:List MStep)(ha:∀s∈l,OkRs s.adds)(hl:l.length≤9223372036854775807)(hf:zc4 l=true):CtJ errG Tryz.prog 3 [st (cfgC c),lst (l.map mstepC)] [] [] (bool true) []:=by
 obtain⟨h60,hs⟩:=zi6 hf;rcases zxt c with hk|hk|hk|hk
 all_goals
  refine CtJ.B errK Tryz.func3 mixed 9999 400 ?_;simp;refine CI.j [] zgp Tryz.call6 9999 ?_;simp;refine CI.p (zjr l ha hl) Tryz.call7 9999 ?_ (ha:=by simp[hf]);simp[hf];refine CI.p (zel c) Tryz.call9 9999 ?_;simp;refine CI.p (zdv l (by omega)) Tryz.call10 9999 ?_;simp;refine CI.j [] (qnh c l (by omega) hs) Tryz.call8 9999 ?_ (ha:=by simp[hk,ndL]) (hn:=by constructor<;>simp[nmOk,hk,ndL]) (hk:=by simp[hk,ndL]);simp[hk,ndL];have q:(zad (newM c) l).1.ns.length=zar c:=(zbb l (OkM.new c) hs).2.trans (by simp[newM]);have sd:=qwq c (by omega) hs;generalize(zad (newM c) l).2=os;generalize(zad (newM c) l).1=M at q sd⊢;refine LoopI.inv mixed rfl (ι:={k:Nat//k≤zar c}) (fun k=>[(5,bool true),(6,.ptr 768 0),(8,int k.1)]) (fun k=>BD 768 M (ndL M 0 (zar c))) 1216 (fun k=>zar c-k.1) ⟨0,by omega⟩ [] (by constructor<;>simp[hk,ndL]) ?_;rintro⟨i,hi⟩ B hB;refine CI.run 9999 400 rfl ?_;simp;refine CI.cc [768,769,770,771,772,773] (zfh M.c M.p M.lost (ndL M 0 (zar c)) (by simp[hk,ndL]) (by simp[hk,ndL])) Tryz.call11 9999 ?_ (ha:=by simp[hk,ndL]) (hn:=by constructor<;>simp[nmOk,hk,ndL]) (hk:=by simp[hk,ndL]);simp[hk,ndL];refine sBI (fun h1=>?_) (fun h1=>?_)<;>simp only[h1]<;>simp<;>(try simp only[nT,nF,dT,dF]at h1)
  ·have hi':i<zar c:=by omega
   obtain⟨n,hn1⟩:∃n,M.ns[i]? =some n:=⟨_,List.getElem?_eq_getElem (by omega)⟩;have hd:(ndL M 0 (zar c))[i]? =some (zb5 n):=by
    have:=congrArg (fun l=>l[i]?) (zjp q);simp only[List.getElem?_map,hn1]at this;exact this.symm
   obtain⟨on,us,ds⟩:=sd n (List.mem_of_getElem? hn1);refine LoopI.inv mixed rfl (ι:={k:Nat//k≤2}) (fun k=>[(5,bool true),(6,.ptr 768 0),(8,int i),(9,int k.1)]) (fun k=>BD 768 M (ndL M 0 (zar c))) 1600 (fun k=>2-k.1) ⟨0,by omega⟩ [] (by constructor<;>simp[hk,ndL]) ?_;rintro⟨w,hw⟩ Bw hBw;refine CI.run 9999 400 rfl ?_;simp;refine sBI (fun h2=>?_) (fun h2=>?_)<;>simp only[h2]<;>simp<;>(try simp only[nT,nF,dT,dF]at h2)
   ·have hw':(w:Int)=0∨(w:Int)=1:=by omega
    refine CI.cc [768,769,770,771,772,773] (qwm M.c M.p M.lost _ i w i n (by simp[hk,ndL]) hd rfl hw') Tryz.call12 9999 ?_ (ha:=by simp[hk,ndL]) (hn:=by constructor<;>simp[nmOk,hk,ndL]) (hk:=by simp[hk,ndL]);simp[hk,ndL];have ow:=on.way (w:Int);have fs:∀f∈(wayN n w).q,(f.type=1↔(w:Int)=1)∧f.epoch=(wayN n w).epoch∧f.epoch=n.sess.epoch:=by
     rcases hw' with e|e
     ·rw[e];intro f hf;have:=us f hf;exact⟨⟨fun g=>absurd g this.1,fun g=>absurd g (by decide)⟩,this.2.1,this.2.2⟩
     ·rw[e];intro f hf;have:=ds f hf;exact⟨⟨fun _=>rfl,fun _=>this.1⟩,this.2.1,this.2.2⟩
    generalize wayN n w=Lk at ow fs⊢;have hlen:=ow.len;refine LoopI.U mixed (Lk.q) (fun kj=>[(5,bool true),(6,.ptr 768 0),(8,int i),(9,int w),(10,.ptr 2176 0),(12,int kj.1)]) (fun kj=>BD 768 M (ndL M 0 (zar c))++[(2176,.cells ((flkC Lk).map .d) 38)]) 2432 [] (by constructor<;>simp[hk,ndL]) ?_;rintro⟨kj,hk1j⟩ Bj hBj;refine CI.run 9999 400 rfl ?_;simp[hk,ndL];refine sBI (fun hj=>?_) (fun hj=>?_)
    ·have hkj:kj<(Lk.q).length:=by simpa using hj
     obtain⟨f,hxj,hrj,hmj,htj,hdj⟩:=inL hkj;have hwj:=wr (k:=kj) (by omega);simp only[hj];simp[hrj,hwj];obtain⟨g1,g2,g3⟩:=fs f hmj;have fz:=ow.q f hmj;have hb:=zk0 (frameE_zero.1 fz);obtain⟨x,bt,e⟩:=List.exists_cons_of_ne_nil (qf3 f);have et:zhz f=zkm (x::bt):=by rw[←e];rfl
     have hx:txtC f=[lD ((zkm (x::bt)).map byteC)]:=by simp[txtC,txC,et]
     have eb:(x::bt).map byteC=(putB f).map byteC:=by rw[e]
     have hty:(f.type=1)=((w:Int)=1):=propext g1;have g4:n.sess.epoch=Lk.epoch:=g3.symm.trans g2;simp[hrj,hx];refine CI.p (qnq x bt (by rw[←e];omega)) Tryz.call13 9999 ?_;simp;refine CI.p (qvi f fz) Tryz.call14 9999 ?_ (ha:=by simp[←eb]);simp[←eb];refine CI.cc [768,769,770,771,772,773] (qnd M.c M.p M.lost _ i i n (by simp[hk,ndL]) hd rfl) Tryz.call15 9999 ?_ (ha:=by simp[hk,ndL]) (hn:=by constructor<;>simp[nmOk,hk,ndL]) (hk:=by simp[hk,ndL]);simp[hk,ndL];simp[hrj,hx,hty,g2,g4];refine hBj _ ⟨kj+1,by omega⟩ [] ?_ (by simp;omega);constructor<;>simp[hwj,htj,hk,ndL]
    ·have hklj:kj=(Lk.q).length:=by simp at hj;omega
     subst hklj;simp only[hj];simp[List.take_length,List.drop_length];have ww:IntKind.wrap .i64 ((w:Int)+1)=w+1:=zab (by omega) (by omega);refine hBw _ ⟨w+1,by omega⟩ [] ?_ (by simp;omega);constructor<;>simp[ww,hk,ndL]
   ·have wi:IntKind.wrap .i64 ((i:Int)+1)=i+1:=zab (by omega) (by omega);refine hB _ ⟨i+1,by omega⟩ [] ?_ (by simp;omega);constructor<;>simp[wi,hk,ndL]
  ·first| (refine⟨[],?_,?_,?_,?_,?_,?_,?_⟩<;>simp[nmF,inB];done)| (refine⟨by decide+kernel,?_⟩;refine⟨[],?_,?_,?_,?_,?_,?_,?_⟩<;>simp[nmF,inB])
attribute [simp] Tryz.ntmps3 Tryz.results3
theorem qj1 (c:Cfg)(l:List MStep)(ha:∀s∈l,OkRs s.adds)(hl:l.length≤9223372036854775807)(hf:zc4 l=false):CtJ errG Tryz.prog 3 [st (cfgC c),lst (l.map mstepC)] [] [] (bool true) []:=by
 refine CtJ.B errK Tryz.func3 mixed 9999 400 ?_;simp;refine CI.j [] zgp Tryz.call6 9999 ?_;simp;refine CI.p (zjr l ha hl) Tryz.call7 9999 ?_ (ha:=by simp[hf]);simp[hf];first|exact fin0 (by simp[hf]) rfl|exact zaa (by simp[hf])
theorem zye (c:Cfg)(l:List MStep)(h:l.length≤9223372036854775807∧∀s∈l,OkMA s):CtJ errG Tryz.prog 3 [st (cfgC c),lst (l.map mstepC)] [] [] (bool true) []:=by
 have hl:=h.1;have ha:∀s∈l,OkRs s.adds:=fun s hs=>(h.2 s hs).adds;by_cases hf:zc4 l=true
 ·exact qps c l ha hl hf
 ·exact qj1 c l ha hl (by simpa using hf)
end Go.Proofs.YtekckhepcdndcaaGreatDoor
