/-
  LAYERS 9, 10, 13, 20: the walks of policies' exported functions, of numbers of pushes, of frames, of sessions.
-/
import Derived.Test.YtjoaclgkjhncjaaGreatDoorWe
import Derived.Test.YtjoaclgkjhncjaaGreatDoorAs
import Derived.Test.YtjoaclgkjhncjaaGreatDoorPs
import Derived.Test.YtjoaclgkjhncjaaGreatDoorFd
import Derived.Test.YtjoaclgkjhncjaaGreatDoorWa
import Derived.Test.YtjoaclgkjhncjaaGreatDoorFc
set_option linter.unusedSimpArgs false
set_option linter.unusedVariables false
section
open Go.RowKit
namespace Go.Proofs.YtjoaclgkjhncjaaGreatDoor
open Go.AI Go.G
set_option maxRecDepth 20000
abbrev errV :Value:=.iface 431 (.agg #[.pointer (some ⟨4,259,none⟩)])
def errG :(Nat→Prop)→World→Prop:=fun I w=>I 1∧w.cell? ⟨1,0,none⟩=some errV
theorem errK :qt7 errG:=fun I I' w w' h h1 h2=>⟨h2 1 h.1,(zgr (h1 1 h.1)).trans h.2⟩
set_option maxHeartbeats 4000000 in
theorem qku (b:Nat)(e:Int)(w:World)(hg:w.cell? ⟨1,0,none⟩=some errV)(hc:w.cell? ⟨b,0,none⟩=some (.int .i64 e)):
  Calls Tryz.prog 174 #[.iface 309 (.pointer (some ⟨b,0,none⟩))] w fun ev w'=>ev=.returned (.int .i64 e)∧Below w.heap.size w w'∧w.drawn≤w'.drawn:=by
 have hlt:1<w.heap.size:=by
  rcases Nat.lt_or_ge 1 w.heap.size with h|h
  ·exact h
  ·simp[World.cell?,Array.getElem?_eq_none h]at hg
 have hbl:b<w.heap.size:=by
  rcases Nat.lt_or_ge b w.heap.size with h|h
  ·exact h
  ·simp[World.cell?,Array.getElem?_eq_none h]at hc
 have hgA:(w.alloc (.cells #[.pointer none] 309)).cell? ⟨1,0,none⟩=some errV:=by
  rw[World.cell?_alloc_lt _ _ ⟨1,0,none⟩ hlt];exact hg
 have htA:(w.alloc (.cells #[.pointer none] 309)).cell? ⟨w.heap.size,0,none⟩=some (.pointer none):=by simp
 have hfA:(w.alloc (.cells #[.pointer none] 309)).frozen? ⟨w.heap.size,0,none⟩=false:=by simp
 have hAs:Calls Tryz.prog 224 #[.iface 309 (.pointer (some ⟨b,0,none⟩)),.iface 311 (.pointer (some ⟨w.heap.size,0,none⟩))] (w.alloc (.cells #[.pointer none] 309)) fun ev w'=>
   ev=.returned (.bool true)∧w'.cell? ⟨w.heap.size,0,none⟩=some (.pointer (some ⟨b,0,none⟩))∧w'.cell? ⟨b,0,none⟩=some (.int .i64 e)∧Below w.heap.size w w'∧w.drawn≤w'.drawn:=by
  refine(qxh _ _ (.pointer none) _ hgA htA hfA).mono ?_;rintro ev w' ⟨rfl,rfl⟩;have hB:Below w.heap.size w (((((w.alloc (.cells #[.pointer none] 309)).alloc (.cells #[.pointer (some ⟨w.heap.size,0,none⟩)] 311)).alloc (.cells #[.pointer (some ⟨4,311,none⟩),.pointer (some ⟨(w.alloc (.cells #[.pointer none] 309)).heap.size,0,none⟩),.int .u64 150] 369)).alloc (.cells #[.pointer (some ⟨4,311,none⟩),.pointer (some ⟨(w.alloc (.cells #[.pointer none] 309)).heap.size,0,none⟩),.int .u64 150] 369)).alloc (.cells #[.pointer (some ⟨b,0,none⟩)] 309)):=
   (((((Below.refl _ w).alloc (Nat.le_refl _) _).alloc (by simp) _).alloc (by simp;omega) _).alloc (by simp;omega) _).alloc (by simp;omega) _
  refine⟨rfl,?_,?_,hB.setCell (p:=⟨w.heap.size,0,none⟩) (by simp) _,Nat.le_refl _⟩
  ·refine(zdh (zus (t:=309) (v:=.pointer none) ?_ _)).1;refine(Below.heap_alloc _ _ _ (by simp;omega)).trans ?_;refine(Below.heap_alloc _ _ _ (by simp;omega)).trans ?_;refine(Below.heap_alloc _ _ _ (by simp;omega)).trans ?_;refine(Below.heap_alloc _ _ _ (by simp)).trans ?_;exact World.alloc_heap_new w _
  ·have h1:=hB.block b hbl;refine(zgr (a:=⟨b,0,none⟩) ((zcy _ (show b≠w.heap.size by omega)).trans h1)).trans hc
 go_enter Tryz.func174,Tryz.ntmps174
 go_wp2_with (go_at_call 224;refine hAs.mono ?_;rintro ev w' ⟨rfl,c1,c2,c3,c4⟩)
 go_ret
 exact⟨rfl,c3,c4⟩
theorem qkt (w:World):Calls Tryz.prog 174 #[.nilIface] w fun ev w'=>ev=.returned (.int .i64 0)∧Below w.heap.size w w'∧w.drawn≤w'.drawn:=by
 go_enter Tryz.func174,Tryz.ntmps174
 go_wp2_with (go_at_call 224;refine(qxg _ _).mono ?_;rintro ev w' ⟨rfl,rfl⟩)
 go_ret
 exact⟨rfl,(Below.refl _ w).alloc (Nat.le_refl _) _,Nat.le_refl _⟩
theorem qpv :CtJ errG Tryz.prog 174 [.d (.v .nilIface)] [] [] (int 0) []:=by
 refine CtJ.of_below fun σ I w vs hG hI hl ha hm=>?_
 match vs,hl with
 |[v],_=>
  have h0:=ha 0 _ v rfl rfl;obtain rfl:=RV_v h0;exact qkt w
theorem qpu (e:Int)(cs:List AV)(T:TypeId):CtJ errG Tryz.prog 174 [.ifc 309 (.ptr 0 0)] [(0,.cells (int e::cs) T)] [] (int e) []:=by
 refine CtJ.of_below fun σ I w vs hG hI hl ha hm=>?_
 match vs,hl with
 |[v],_=>
  have h0:=ha 0 _ v rfl rfl;obtain⟨y,hy,hb,hn⟩:=hm.blk 0 _ rfl;cases h0 with
  |ifc h0=>cases h0 with
   | @ptr _ _ n h0=>
     rw[h0]at hy;cases hy;cases hb with
     | @cells _ _ _ arr c1 c2 c3=>
       refine qku n e w hG.2 ?_;have hlt:0<arr.size:=by rw[c2];simp
       have e0:arr[0]? =some arr[0]:=Array.getElem?_eq_getElem hlt;have:=c3 0 _ arr[0] rfl e0;have e1:arr[0]=.int .i64 e:=by
        generalize arr[0]=z at this;exact RV_v this
       simp[World.cell?,c1,e0,e1]
theorem qar (s:Store):¬(za5 s).hist=[]:=by
 unfold za5;split
 ·simp[newS]
 ·rename_i h;simpa using h
theorem zve {s:Store}(hl:s.hist.length≤1000000):(za5 s).hist.length≤1000000:=by
 unfold za5;split
 ·simp[newS]
 ·exact hl
attribute [simp] Tryz.ntmps22 Tryz.results22
theorem ztx (s:Store)(hl:s.hist.length≤1000000):Ct Tryz.prog 22 [st (zbg s)] [] [] (.tup [int ((za5 s).hist.length-1),lst ((zbf (za5 s)).map resC)]) []:=by
 refine Ct.B Tryz.func22 mixed 9999 400 ?_;simp;refine CI.p (zyt s) Tryz.call53 9999 ?_;simp;have h1:=qar s;have h2:=zve hl;have h0:0<(za5 s).hist.length:=List.length_pos_iff.2 h1;have hw:IntKind.wrap .i64 (((za5 s).hist.length:Int)-1)=((za5 s).hist.length:Int)-1:=zab (by omega) (by omega);refine CI.p (qit (za5 s) h1 h2) Tryz.call54 9999 ?_;simp;refine⟨by decide+kernel,?_⟩;first|exact fin0 (by simp[hw]) rfl|exact zaa (by simp[hw])
attribute [simp] Tryz.ntmps112 Tryz.results112
theorem qkk (s:Store)(adds:List Res)(gone:List Key)(hl:s.hist.length≤1000000)(hok:OkRs (zbf (za5 s)))(hn:(zbf (za5 s)).length+adds.length≤1000000)(hg:gone.length≤9223372036854775807):CtJ errG Tryz.prog 112 [st (zbg s),lst (adds.map resC),lst (gone.map keyC)] [] [] (.tup [st (zbg (zgz (za5 s) adds gone)),int (zif (za5 s) adds gone)]) []:=by
 refine CtJ.B errK Tryz.func112 mixed 9999 400 ?_;simp;refine CI.p (zyt s) Tryz.call53 9999 ?_;simp;have h1:=qar s;have h2:=zve hl;have hp:=qhf (za5 s) adds gone h1 h2 hok hn hg;by_cases he:zif (za5 s) adds gone=0
 ·simp only[errA,errM,if_pos he]at hp;refine CI.p hp Tryz.call173 9999 ?_;simp;refine CI.j [] qpv Tryz.call174 9999 ?_;simp;refine⟨by decide+kernel,?_⟩;first|exact fin0 (by simp[he]) rfl|exact zaa (by simp[he])
 ·simp only[errA,errM,if_neg he]at hp;refine CI.cc [] hp Tryz.call173 9999 ?_;simp;refine CI.j [512] (qpu (zif (za5 s) adds gone) [int (za5 s).hist.length] 313) Tryz.call174 9999 ?_;simp;refine⟨by decide+kernel,?_⟩;first|exact fin0 (by simp[he]) rfl|exact zaa (by simp[he])
end Go.Proofs.YtjoaclgkjhncjaaGreatDoor
end
namespace Go.Proofs.YtjoaclgkjhncjaaGreatDoor
open Go.AI Go.G
set_option maxRecDepth 20000
abbrev nnC (i:Nonce.Nn):List D:=[iD i.l0,iD i.l1,iD i.l2,iD i.l3,iD i.m]
attribute [simp] Tryz.ntmps111 Tryz.results111
theorem qw8 (n:Int):Ct Tryz.prog 111 [int n] [] [] (int (Nonce.bnd n)) []:=by
 refine Ct.B Tryz.func111 mixed 9999 400 ?_;simp;have e:=qti n;first|exact fin0 (by simp[e]) rfl|exact zaa (by simp[e])
attribute [simp] Tryz.ntmps71 Tryz.results71
theorem zs9 (n:Int):Ct Tryz.prog 71 [int n] [] [] (.tup [st (ouC (Nonce.startO n)),st (nnC (Nonce.startI n))]) []:=by
 refine Ct.B Tryz.func71 mixed 9999 400 ?_;simp;refine CI.p (qw8 n) Tryz.call111 9999 ?_;simp;first|exact fin0 (by simp[Nonce.startO,Nonce.startI]) rfl|exact zaa (by simp[Nonce.startO,Nonce.startI])
attribute [simp] Tryz.ntmps236 Tryz.results236
theorem zud (k_:Int):Ct Tryz.prog 236 [int k_] [] [] (bool (Nonce.kindB k_)) []:=by
 refine Ct.B Tryz.func236 mixed 9999 400 ?_;simp;refine sGI (fun h1=>?_) (fun h1=>?_)<;>simp only[h1]<;>simp<;>(try simp only[nT,nF,dT,dF]at h1)
 ·first|exact fin0 (by simp[Nonce.kindB,h1]) rfl|exact zaa (by simp[Nonce.kindB,h1])
 ·first|exact fin0 (by simp[Nonce.kindB,h1]) rfl|exact zaa (by simp[Nonce.kindB,h1])
attribute [simp] Tryz.ntmps131 Tryz.results131
theorem ztc (i:Nonce.Nn):Ct Tryz.prog 131 [st (nnC i)] [] [] (bool (Nonce.soundB i)) []:=by
 refine Ct.B Tryz.func131 mixed 9999 400 ?_;simp;refine LoopI.unroll mixed (Plain.retC _ _ _ _ _) rfl ?_;refine CI.run 9999 400 rfl ?_;simp;refine⟨by decide+kernel,?_⟩;refine LoopI.unroll mixed (Plain.retC _ _ _ _ _) rfl ?_;refine CI.run 9999 400 rfl ?_;simp;refine⟨by decide+kernel,?_⟩;refine LoopI.unroll mixed (Plain.retC _ _ _ _ _) rfl ?_;refine CI.run 9999 400 rfl ?_;simp;refine⟨by decide+kernel,?_⟩;refine LoopI.unroll mixed (Plain.retC _ _ _ _ _) rfl ?_;refine CI.run 9999 400 rfl ?_;simp;refine⟨by decide+kernel,?_⟩;refine LoopI.unroll mixed (Plain.retC _ _ _ _ _) rfl ?_;refine CI.run 9999 400 rfl ?_;simp;refine sGI (fun h=>?_) (fun h=>?_)<;>simp only[h]<;>simp
 ·refine CI.p (qw8 i.m) Tryz.call111 9999 ?_;simp;have e:=qfw i h;first|exact fin0 (by simp[e]) rfl|exact zaa (by simp[e])
 ·have e:=qk5 i h;first|exact fin0 (by simp[e]) rfl|exact zaa (by simp[e])
attribute [simp] Tryz.ntmps158 Tryz.results158
theorem qo8 (o:Nonce.Ou):Ct Tryz.prog 158 [st (ouC o)] [] [] (bool (Nonce.goodB o)) []:=by
 refine Ct.B Tryz.func158 mixed 9999 400 ?_;simp;obtain⟨a,b,c,d,x,y,z,t,m⟩:=o;refine LoopI.unroll mixed (Plain.retC _ _ _ _ _) rfl ?_;refine CI.run 9999 400 rfl ?_;simp
 repeat' first
  | (refine sGI (fun h=>?_) (fun h=>?_)<;>simp only[h]<;>simp[h])
  | (refine sBI (fun h=>?_) (fun h=>?_)<;>simp only[h]<;>simp[h])
  | (refine⟨(show zba _ _ from by decide+kernel),?_⟩)
  |fail
 all_goals(first| (exact fin0 (by simp[Nonce.goodB, *]) rfl)| (refine⟨by decide+kernel,?_⟩;exact fin0 (by simp[Nonce.goodB, *]) rfl)|skip)
 all_goals
  refine LoopI.unroll mixed (Plain.retC _ _ _ _ _) rfl ?_;refine CI.run 9999 400 rfl ?_;simp
 repeat' first
  | (refine sGI (fun h=>?_) (fun h=>?_)<;>simp only[h]<;>simp[h])
  | (refine sBI (fun h=>?_) (fun h=>?_)<;>simp only[h]<;>simp[h])
  | (refine⟨(show zba _ _ from by decide+kernel),?_⟩)
  |fail
 all_goals(first| (exact fin0 (by simp[Nonce.goodB, *]) rfl)| (refine⟨by decide+kernel,?_⟩;exact fin0 (by simp[Nonce.goodB, *]) rfl)|skip)
 all_goals
  refine LoopI.unroll mixed (Plain.retC _ _ _ _ _) rfl ?_;refine CI.run 9999 400 rfl ?_;simp
 repeat' first
  | (refine sGI (fun h=>?_) (fun h=>?_)<;>simp only[h]<;>simp[h])
  | (refine sBI (fun h=>?_) (fun h=>?_)<;>simp only[h]<;>simp[h])
  | (refine⟨(show zba _ _ from by decide+kernel),?_⟩)
  |fail
 all_goals(first| (exact fin0 (by simp[Nonce.goodB, *]) rfl)| (refine⟨by decide+kernel,?_⟩;exact fin0 (by simp[Nonce.goodB, *]) rfl)|skip)
 all_goals
  refine LoopI.unroll mixed (Plain.retC _ _ _ _ _) rfl ?_;refine CI.run 9999 400 rfl ?_;simp
 repeat' first
  | (refine sGI (fun h=>?_) (fun h=>?_)<;>simp only[h]<;>simp[h])
  | (refine sBI (fun h=>?_) (fun h=>?_)<;>simp only[h]<;>simp[h])
  | (refine⟨(show zba _ _ from by decide+kernel),?_⟩)
  |fail
 all_goals(first| (exact fin0 (by simp[Nonce.goodB, *]) rfl)| (refine⟨by decide+kernel,?_⟩;exact fin0 (by simp[Nonce.goodB, *]) rfl)|skip)
 all_goals
  refine LoopI.unroll mixed (Plain.retC _ _ _ _ _) rfl ?_;refine CI.run 9999 400 rfl ?_;simp
 all_goals
  refine CI.p (ztc ⟨a,b,c,d,m⟩) Tryz.call131 9999 ?_;simp
 all_goals(first| (exact fin0 (by simp[Nonce.goodB,Nonce.Ou.toI, *]) rfl)| (refine⟨by decide+kernel,?_⟩;exact fin0 (by simp[Nonce.goodB,Nonce.Ou.toI, *]) rfl))
attribute [simp] Tryz.ntmps285 Tryz.results285
theorem qvh (o:Nonce.Ou):Ct Tryz.prog 285 [st (ouC o)] [] [] (st (ouC (Nonce.outF o))) []:=by
 refine Ct.B Tryz.func285 mixed 9999 400 ?_;simp;refine CI.p (qo8 o) Tryz.call158 9999 ?_;simp;refine sBI (fun h1=>?_) (fun h1=>?_)<;>simp only[h1]<;>simp<;>(try simp only[nT,nF,dT,dF]at h1)
 ·first|exact fin0 (by simp[Nonce.outF,h1]) rfl|exact zaa (by simp[Nonce.outF,h1])
 ·refine CI.p (zs9 o.m) Tryz.call71 9999 ?_;simp;first|exact fin0 (by simp[Nonce.outF,h1]) rfl|exact zaa (by simp[Nonce.outF,h1])
attribute [simp] Tryz.ntmps225 Tryz.results225
theorem qh0 (o:Nonce.Ou)(k_:Int):Ct Tryz.prog 225 [st (ouC o),int k_] [] [] (.tup [st (ouC (Nonce.push o k_).1),int (Nonce.push o k_).2.1,int (Nonce.push o k_).2.2]) []:=by
 refine Ct.B Tryz.func225 mixed 9999 400 ?_;simp;refine CI.p (qvh o) Tryz.call285 9999 ?_;simp;simp only[Nonce.push];have hb:=Nonce.outF_ok o;generalize Nonce.outF o=q at hb⊢;obtain⟨A,B,C,D,X,Y,Z,T,M⟩:=q;simp only[Nonce.Ou.ok]at hb;have wA:IntKind.wrap .i64 (A+1)=A+1:=zab (by omega) (by omega);have wB:IntKind.wrap .i64 (B+1)=B+1:=zab (by omega) (by omega);have wC:IntKind.wrap .i64 (C+1)=C+1:=zab (by omega) (by omega);have wD:IntKind.wrap .i64 (D+1)=D+1:=zab (by omega) (by omega);refine CI.p (zud k_) Tryz.call236 9999 ?_;simp;by_cases hk:Nonce.kindB k_=true
 ·rcases Nonce.kindB_is hk with rfl|rfl|rfl|rfl
  all_goals
   simp[hk]
  all_goals
   repeat' first
    | (refine sGI (fun h=>?_) (fun h=>?_)<;>simp only[h]<;>simp[h,wA,wB,wC,wD])
    | (refine sBI (fun h=>?_) (fun h=>?_)<;>simp only[h]<;>simp[h,wA,wB,wC,wD])
    | (refine⟨(show zba _ _ from by decide+kernel),?_⟩)
    |fail
  all_goals
   clear wA wB wC wD;first
    | (refine fin0 ?_ rfl;simp_all[Nonce.pushQ,Nonce.Ou.open',Nonce.Ou.last,Nonce.Ou.set];done)
    | (refine⟨by decide+kernel,fin0 ?_ rfl⟩;simp_all[Nonce.pushQ,Nonce.Ou.open',Nonce.Ou.last,Nonce.Ou.set];done)
 ·simp[hk];first|exact fin0 (by simp[Nonce.pushQ,hk]) rfl|exact zaa (by simp[Nonce.pushQ,hk])
attribute [simp] Tryz.ntmps312 Tryz.results312
theorem qr8 (o:Nonce.Ou)(k_ n:Int):Ct Tryz.prog 312 [st (ouC o),int k_,int n] [] [] (.tup [st (ouC (Nonce.done o k_ n).1),int (Nonce.done o k_ n).2]) []:=by
 refine Ct.B Tryz.func312 mixed 9999 400 ?_;simp;refine CI.p (qvh o) Tryz.call285 9999 ?_;simp;simp only[Nonce.done];generalize Nonce.outF o=q;obtain⟨A,B,C,D,X,Y,Z,T,M⟩:=q;refine CI.p (zud k_) Tryz.call236 9999 ?_;simp;by_cases hk:Nonce.kindB k_=true
 ·rcases Nonce.kindB_is hk with rfl|rfl|rfl|rfl
  all_goals
   simp[hk]
  all_goals
   repeat' first
    | (refine sGI (fun h=>?_) (fun h=>?_)<;>simp only[h]<;>simp[h])
    | (refine sBI (fun h=>?_) (fun h=>?_)<;>simp only[h]<;>simp[h])
    | (refine⟨(show zba _ _ from by decide+kernel),?_⟩)
    |fail
  all_goals
   first
    | (refine fin0 ?_ rfl;simp_all[Nonce.doneQ,Nonce.Ou.open',Nonce.Ou.last,Nonce.Ou.set];done)
    | (refine⟨by decide+kernel,fin0 ?_ rfl⟩;simp_all[Nonce.doneQ,Nonce.Ou.open',Nonce.Ou.last,Nonce.Ou.set];done)
 ·simp[hk];first|exact fin0 (by simp[Nonce.doneQ,hk]) rfl|exact zaa (by simp[Nonce.doneQ,hk])
end Go.Proofs.YtjoaclgkjhncjaaGreatDoor
namespace Go.Proofs.YtjoaclgkjhncjaaGreatDoor
open Go.AI Go.G
set_option maxRecDepth 20000
attribute [simp] Tryz.ntmps363 Tryz.results363
theorem qm0 (l:List G.Mark)(kf:D)(p:G.Mark→Bool)(hf:∀x∈l,FnOk Tryz.prog (.d kf) [st (zfq x)] (bool (p x)))(hl:l.length≤9223372036854775807):Ct Tryz.prog 363 [lst (l.map zfq),.d kf] [] [] (int (idxF p l)) []:=by
 refine Ct.B Tryz.func363 mixed 9999 400 ?_;simp;refine LoopI.inv mixed rfl (ι:={k:Nat//k≤(l).length∧(l.take k).all (fun x=>!p x)=true}) (fun k=>[(0,lst (l.map zfq)),(1,.d kf),(7,int l.length),(8,int k.1)]) (fun k=>[]) 64 (fun k=>(l).length-k.1) ⟨0,by omega,by simp⟩ [] (by constructor<;>simp) ?_;rintro⟨k,hk1,hi⟩ B hB;refine CI.run 9999 400 rfl ?_;simp;refine sBI (fun h=>?_) (fun h=>?_)
 ·have hk:k<(l).length:=by simpa using h
  obtain⟨r,hx,hr,hm,ht,hd⟩:=inL hk;have hw:=wr (k:=k) (by omega);simp only[h];simp[hr,hw];refine CI.ff (hf r hm) rfl rfl rfl 9999 ?_;simp;refine sBI (fun hp=>?_) (fun hp=>?_)<;>simp only[hp]<;>simp
  ·first|exact fin0 (by simp[zc2 hi hr hp]) rfl|exact zaa (by simp[zc2 hi hr hp])
  ·refine hB _ ⟨k+1,by omega,by simp[ht,hi,hp]⟩ [] ?_ (by simp;omega);constructor<;>simp[hw,ht,hp]
 ·have hkl:k=(l).length:=by simp at h;omega
  subst hkl;simp only[h];simp[List.take_length,List.drop_length];rw[List.take_length]at hi;first|exact fin0 (by simp[zbi (fun x hx=>by have:=List.all_eq_true.1 hi x hx;simpa using this)]) rfl|exact zaa (by simp[zbi (fun x hx=>by have:=List.all_eq_true.1 hi x hx;simpa using this)])
attribute [simp] Tryz.ntmps303 Tryz.results303
theorem qcu (l:List G.Mark)(kf:D)(p:G.Mark→Bool)(hf:∀x∈l,FnOk Tryz.prog (.d kf) [st (zfq x)] (bool (p x)))(hl:l.length≤9223372036854775807):Ct Tryz.prog 303 [lst (l.map zfq),.d kf] [] [] (bool (l.any p)) []:=by
 refine Ct.B Tryz.func303 mixed 9999 400 ?_;simp;refine CI.p (qm0 l kf p hf hl) Tryz.call363 9999 ?_;simp;rw[zgp];first|exact fin0 (by simp) rfl|exact zaa (by simp)
attribute [simp] Tryz.ntmps242 Tryz.results242
theorem zgh (n m:Int):Ct Tryz.prog 242 [int n,int m] [] [] (bool (rngB n m)) []:=by
 refine Ct.B Tryz.func242 mixed 9999 400 ?_;simp
 repeat' first
  | (refine sGI (fun h=>?_) (fun h=>?_)<;>simp only[h]<;>simp[h])
  | (refine sBI (fun h=>?_) (fun h=>?_)<;>simp only[h]<;>simp[h])
  | (refine⟨(show zba _ _ from by decide+kernel),?_⟩)
  |fail
 all_goals exact fin0 (by simp[*,rngB]) rfl
attribute [simp] Tryz.ntmps241 Tryz.results241
theorem zeq (b:Bool)(e:Int):Ct Tryz.prog 241 [bool b,int e] [] [] (int (if b=true then 0 else e)) []:=by
 refine Ct.B Tryz.func241 mixed 9999 400 ?_;simp;refine sBI (fun h1=>?_) (fun h1=>?_)<;>simp only[h1]<;>simp
 ·first|exact fin0 (by simp[h1]) rfl|exact zaa (by simp[h1])
 ·first|exact fin0 (by simp[h1]) rfl|exact zaa (by simp[h1])
attribute [simp] Tryz.ntmps240 Tryz.results240
theorem qjl (l:List Int)(hl:l.length≤1000):Ct Tryz.prog 240 [lst (l.map intC)] [] [] (int ((l.find? fun e=>!decide (e=0)).getD 0)) []:=by
 refine Ct.B Tryz.func240 mixed 9999 400 ?_;simp;refine LoopI.inv mixed rfl (ι:={k:Nat//k≤(l).length∧(l.take k).all (fun e=>decide (e=0))=true}) (fun k=>[(5,lst (l.map intC)),(6,int l.length),(7,int k.1)]) (fun k=>[]) 64 (fun k=>(l).length-k.1) ⟨0,by omega,by simp⟩ [] (by constructor<;>simp) ?_;rintro⟨k,hk1,hi⟩ B hB;refine CI.run 9999 400 rfl ?_;simp;refine sBI (fun h=>?_) (fun h=>?_)
 ·have hk:k<(l).length:=by simpa using h
  obtain⟨x,hx,hr,hm,ht,hd⟩:=inL hk;have hw:=wr (k:=k) (by omega);simp only[h];simp[hr,hw];refine sBI (fun h1=>?_) (fun h1=>?_)<;>simp only[h1]<;>simp<;>(try simp only[nT,nF,dT,dF]at h1)
  ·have e:(l.find? fun e=>!decide (e=0))=some x:=qnd hi hr h1;first|exact fin0 (by simp[e]) rfl|exact zaa (by simp[e])
  ·refine hB _ ⟨k+1,by omega,by simp[ht,hi,h1]⟩ [] ?_ (by simp;omega);constructor<;>simp[hw,ht,h1]
 ·have hkl:k=(l).length:=by simp at h;omega
  subst hkl;simp only[h];simp[List.take_length,List.drop_length];rw[List.take_length]at hi;have e:(l.find? fun e=>!decide (e=0))=none:=qjj hi;first|exact fin0 (by simp[e]) rfl|exact zaa (by simp[e])
attribute [simp] Tryz.ntmps304 Tryz.results304
theorem qla (m:G.Mark):Ct Tryz.prog 304 [st (zfq m)] [] [] (bool (!rngB m.ver 2147483647)) []:=by
 refine Ct.B Tryz.func304 mixed 9999 400 ?_;simp;refine CI.p (zgh m.ver 2147483647) Tryz.call242 9999 ?_;simp;first|exact fin0 (by simp) rfl|exact zaa (by simp)
attribute [simp] Tryz.ntmps243 Tryz.results243
theorem qfz (f:G.Frame)(hf:OkFrame f):Ct Tryz.prog 243 [st (zam f)] [] [] (bool (zcn f)) []:=by
 refine Ct.B Tryz.func243 mixed 9999 400 ?_;simp;refine CI.p (qcu f.have_ (fnD 304) (fun m=>!rngB m.ver 2147483647) (fun m _=>FnOk.of (qla m) Tryz.call304 rfl rfl) hf.have_) Tryz.call303 9999 ?_;simp;rw[zm6];refine sGI (fun h1=>?_) (fun h1=>?_)<;>simp only[h1]<;>simp
 ·have hl:f.adds.length≤64∧f.gone.length≤64∧f.have_.length≤64∧f.held.length≤64:=by
   simp only[Bool.not_eq_true',decide_eq_false_iff_not]at h1
   (repeat' split at h1)<;>omega
  obtain⟨l1,l2,l3,l4⟩:=hl;refine sGI (fun h2=>?_) (fun h2=>?_)<;>simp only[h2]<;>simp
  ·refine CI.p (zgh f.epoch 2147483647) Tryz.call242 9999 ?_;simp;refine sGI (fun h3=>?_) (fun h3=>?_)<;>simp only[h3]<;>simp
   ·refine CI.p (zgh f.nonce 2147483647) Tryz.call242 9999 ?_;simp;refine sGI (fun h4=>?_) (fun h4=>?_)<;>simp only[h4]<;>simp
    ·refine CI.p (zgh f.turn 2147483647) Tryz.call242 9999 ?_;simp;refine sGI (fun h5=>?_) (fun h5=>?_)<;>simp only[h5]<;>simp
     ·refine CI.p (zgh f.err 15) Tryz.call242 9999 ?_;simp;first|exact fin0 (by simp[zcn,l1,l2,l3,l4,h2,h3,h4,h5]) rfl|exact zaa (by simp[zcn,l1,l2,l3,l4,h2,h3,h4,h5])
     ·first|exact fin0 (by simp[zcn,h5]) rfl|exact zaa (by simp[zcn,h5])
    ·first|exact fin0 (by simp[zcn,h4]) rfl|exact zaa (by simp[zcn,h4])
   ·first|exact fin0 (by simp[zcn,h3]) rfl|exact zaa (by simp[zcn,h3])
  ·first|exact fin0 (by simp[zcn,h2]) rfl|exact zaa (by simp[zcn,h2])
 ·have hl:zcn f=false:=by
   rw[Bool.eq_false_iff];intro hs;obtain⟨l1,l2,l3,l4,_⟩:=zcv hs;simp only[Bool.not_eq_false',decide_eq_true_eq]at h1
   (repeat' split at h1)<;>omega
  first|exact fin0 (by simp[hl]) rfl|exact zaa (by simp[hl])
attribute [simp] Tryz.ntmps306 Tryz.results306
theorem qxa (f:G.Frame):Ct Tryz.prog 306 [st (zam f)] [] [] (st (zam (zjy f))) []:=by
 refine Ct.B Tryz.func306 mixed 9999 400 ?_;simp;refine sBI (fun h1=>?_) (fun h1=>?_)<;>simp only[h1]<;>simp<;>(try simp only[nT,nF,dT,dF]at h1)
 ·first|exact fin0 (by simp[zjy,h1]) rfl|exact zaa (by simp[zjy,h1])
 refine sBI (fun h2=>?_) (fun h2=>?_)<;>simp only[h2]<;>simp<;>(try simp only[nT,nF,dT,dF]at h2)
 ·first|exact fin0 (by simp[zjy,h1,h2]) rfl|exact zaa (by simp[zjy,h1,h2])
 refine sBI (fun h3=>?_) (fun h3=>?_)<;>simp only[h3]<;>simp<;>(try simp only[nT,nF,dT,dF]at h3)
 ·first|exact fin0 (by simp[zjy,h1,h2,h3]) rfl|exact zaa (by simp[zjy,h1,h2,h3])
 refine sBI (fun h4=>?_) (fun h4=>?_)<;>simp only[h4]<;>simp<;>(try simp only[nT,nF,dT,dF]at h4)
 ·first|exact fin0 (by simp[zjy,h1,h2,h3,h4]) rfl|exact zaa (by simp[zjy,h1,h2,h3,h4])
 ·first|exact fin0 (by simp[zjy,h1,h2,h3,h4]) rfl|exact zaa (by simp[zjy,h1,h2,h3,h4])
attribute [simp] Tryz.ntmps244 Tryz.results244
theorem qa2 (f:G.Frame)(hf:OkFrame f):Ct Tryz.prog 244 [st (zam f)] [] [] (bool (zf1 f)) []:=by
 refine Ct.B Tryz.func244 mixed 9999 400 ?_;simp;refine CI.p (qxa f) Tryz.call306 9999 ?_;simp;refine CI.p (qq3 (zjy f) {zFrame with type:=f.type} (qtu hf)) Tryz.call305 9999 ?_ (ha:=by simp[zFrame]);simp[zFrame];first|exact fin0 (by simp[zf1,zFrame]) rfl|exact zaa (by simp[zf1,zFrame])
attribute [simp] Tryz.ntmps366 Tryz.results366
theorem qya (k_:Key):Ct Tryz.prog 366 [st (keyC k_)] [] [] (bool (okK k_)) []:=by
 refine Ct.B Tryz.func366 mixed 9999 400 ?_;simp;refine CI.p (zgh k_.kind 3) Tryz.call242 9999 ?_;simp;refine sGI (fun h1=>?_) (fun h1=>?_)<;>simp only[h1]<;>simp
 ·refine CI.p (zfw k_.name) Tryz.call202 9999 ?_;simp;first|exact fin0 (by simp[okK,h1]) rfl|exact zaa (by simp[okK,h1])
 ·first|exact fin0 (by simp[okK,h1]) rfl|exact zaa (by simp[okK,h1])
attribute [simp] Tryz.ntmps307 Tryz.results307
theorem qtv (k_:Key):Ct Tryz.prog 307 [st (keyC k_)] [] [] (bool (!okK k_)) []:=by
 refine Ct.B Tryz.func307 mixed 9999 400 ?_;simp;refine CI.p (qya k_) Tryz.call366 9999 ?_;simp;first|exact fin0 (by simp) rfl|exact zaa (by simp)
attribute [simp] Tryz.ntmps308 Tryz.results308
theorem qmk (m:G.Mark):Ct Tryz.prog 308 [st (zfq m)] [] [] (bool (!okK m.k)) []:=by
 refine Ct.B Tryz.func308 mixed 9999 400 ?_;simp;refine CI.p (qtv m.k) Tryz.call307 9999 ?_;simp;first|exact fin0 (by simp) rfl|exact zaa (by simp)
attribute [simp] Tryz.ntmps245 Tryz.results245
theorem qia (f:G.Frame)(hf:OkFrame f):Ct Tryz.prog 245 [st (zam f)] [] [] (bool (zcp f)) []:=by
 refine Ct.B Tryz.func245 mixed 9999 400 ?_;simp;refine CI.p (zuy f.gone (fnD 307) (fun k=>!okK k) (fun k _=>FnOk.of (qtv k) Tryz.call307 rfl rfl) hf.gone) Tryz.call137 9999 ?_;simp;rw[zm6,Bool.not_not];refine sGI (fun h1=>?_) (fun h1=>?_)<;>simp only[h1]<;>simp
 ·refine CI.p (zuy f.held (fnD 307) (fun k=>!okK k) (fun k _=>FnOk.of (qtv k) Tryz.call307 rfl rfl) hf.held) Tryz.call137 9999 ?_;simp;rw[zm6,Bool.not_not];refine sGI (fun h2=>?_) (fun h2=>?_)<;>simp only[h2]<;>simp
  ·refine CI.p (qcu f.have_ (fnD 308) (fun m=>!okK m.k) (fun m _=>FnOk.of (qmk m) Tryz.call308 rfl rfl) hf.have_) Tryz.call303 9999 ?_;simp;rw[zm6,Bool.not_not];first|exact fin0 (by simp[zcp,h1,h2]) rfl|exact zaa (by simp[zcp,h1,h2])
  ·first|exact fin0 (by simp[zcp,h1,h2]) rfl|exact zaa (by simp[zcp,h1,h2])
 ·first|exact fin0 (by simp[zcp,h1]) rfl|exact zaa (by simp[zcp,h1])
attribute [simp] Tryz.ntmps246 Tryz.results246
theorem qpd (f:G.Frame)(hf:OkFrame f):Ct Tryz.prog 246 [st (zam f)] [] [] (int (zdb f.adds)) []:=by
 refine Ct.B Tryz.func246 mixed 9999 400 ?_;simp;have hl:=hf.adds.1;refine LoopI.inv mixed rfl (ι:={k:Nat//k≤(f.adds).length∧(f.adds.take k).all (fun r=>decide (zbd r=0))=true}) (fun k=>[(7,lst (f.adds.map resC)),(8,int f.adds.length),(9,int k.1)]) (fun k=>[]) 64 (fun k=>(f.adds).length-k.1) ⟨0,by omega,by simp⟩ [] (by constructor<;>simp) ?_;rintro⟨k,hk1,hi⟩ B hB;refine CI.run 9999 400 rfl ?_;simp;refine sBI (fun h=>?_) (fun h=>?_)
 ·have hk:k<(f.adds).length:=by simpa using h
  obtain⟨x,hx,hr,hm,ht,hd⟩:=inL hk;have hw:=wr (k:=k) (by omega);simp only[h];simp[hr,hw];refine CI.p (znf x) Tryz.call135 9999 ?_;simp;refine sBI (fun h1=>?_) (fun h1=>?_)<;>simp only[h1]<;>simp<;>(try simp only[nT,nF,dT,dF]at h1)
  ·have e:=zul hi hr h1;first|exact fin0 (by simp[e]) rfl|exact zaa (by simp[e])
  ·refine hB _ ⟨k+1,by omega,by simp[ht,hi,h1]⟩ [] ?_ (by simp;omega);constructor<;>simp[hw,ht,h1]
 ·have hkl:k=(f.adds).length:=by simp at h;omega
  subst hkl;simp only[h];simp[List.take_length,List.drop_length];rw[List.take_length]at hi;have e:=zsi hi;first|exact fin0 (by simp[e]) rfl|exact zaa (by simp[e])
attribute [simp] Tryz.ntmps309 Tryz.results309
theorem qso (f:G.Frame)(r:Res):Ct Tryz.prog 309 [st (resC r),.d (.pro (zam f))] [] [] (bool (!decide (r.kind=f.kind))) []:=by
 refine Ct.B Tryz.func309 mixed 9999 400 ?_;simp;first|exact fin0 (by simp) rfl|exact zaa (by simp)
attribute [simp] Tryz.ntmps310 Tryz.results310
theorem qsn (f:G.Frame)(k_:Key):Ct Tryz.prog 310 [st (keyC k_),.d (.pro (zam f))] [] [] (bool (!decide (k_.kind=f.kind))) []:=by
 refine Ct.B Tryz.func310 mixed 9999 400 ?_;simp;first|exact fin0 (by simp) rfl|exact zaa (by simp)
attribute [simp] Tryz.ntmps247 Tryz.results247
theorem qo4 (f:G.Frame)(hf:OkFrame f):Ct Tryz.prog 247 [st (zam f)] [] [] (bool (zkm f)) []:=by
 refine Ct.B Tryz.func247 mixed 1 400 ?_;simp;refine CI.s (tm:=[(1,.d (.pro (zam f)))]) (mm:=[]) (nx:=65) [] [64] (by constructor<;>simp) ?_;refine CI.run 9999 400 rfl ?_;simp;refine CI.p (qkf f.adds (.fn (.func 309) [] [.pro (zam f)]) (fun r=>!decide (r.kind=f.kind)) (fun r _=>FnOk.clo (by exact qso f r) Tryz.call309 rfl rfl) hf.adds.len) Tryz.call139 9999 ?_;simp;rw[zm6,Bool.not_not];refine sGI (fun h1=>?_) (fun h1=>?_)<;>simp only[h1]<;>simp
 ·refine CI.p (zuy f.gone (.fn (.func 310) [] [.pro (zam f)]) (fun k=>!decide (k.kind=f.kind)) (fun k _=>FnOk.clo (by exact qsn f k) Tryz.call310 rfl rfl) hf.gone) Tryz.call137 9999 ?_;simp;rw[zm6,Bool.not_not];have e:zkm f=f.gone.all fun k=>decide (k.kind=f.kind):=by rw[zkm,h1,Bool.true_and]
  rw[←e];first|exact fin0 (by simp) rfl|exact zaa (by simp)
 ·skip
  have e:zkm f=false:=by rw[zkm,h1,Bool.false_and]
  first|exact fin0 (by simp[e]) rfl|exact zaa (by simp[e])
attribute [simp] Tryz.ntmps185 Tryz.results185
theorem zkt (f:G.Frame)(hf:OkFrame f):Ct Tryz.prog 185 [st (zam f)] [] [] (int (za4 f)) []:=by
 refine Ct.B Tryz.func185 mixed 9999 400 ?_;simp;refine CI.p (zgh f.type 3) Tryz.call242 9999 ?_;simp;refine sGI (fun h1=>?_) (fun h1=>?_)<;>simp only[h1]<;>simp
 ·refine CI.p (zgh f.kind 3) Tryz.call242 9999 ?_;simp;refine CI.p (zeq (rngB f.kind 3) 4) Tryz.call241 9999 ?_;simp;refine CI.p (qfz f hf) Tryz.call243 9999 ?_;simp;refine CI.p (zeq (zcn f) 3) Tryz.call241 9999 ?_;simp;refine CI.p (qa2 f hf) Tryz.call244 9999 ?_;simp;refine CI.p (zeq (zf1 f) 2) Tryz.call241 9999 ?_;simp;refine CI.p (qia f hf) Tryz.call245 9999 ?_;simp;refine CI.p (zeq (zcp f) 5) Tryz.call241 9999 ?_;simp;refine CI.p (qpd f hf) Tryz.call246 9999 ?_;simp;refine CI.p (qo4 f hf) Tryz.call247 9999 ?_;simp;refine CI.p (zeq (zkm f) 2) Tryz.call241 9999 ?_;simp;refine CI.g [1664] [] (qjl [if rngB f.kind 3=true then 0 else 4,if zcn f=true then 0 else 3,if zf1 f=true then 0 else 2,if zcp f=true then 0 else 5,zdb f.adds,if zkm f=true then 0 else 2] (by simp)) Tryz.call240 9999 ?_;simp;have e:=zz2 f;rw[h1,Bool.true_and]at e;rw[e];first|exact fin0 (by simp) rfl|exact zaa (by simp)
 ·skip
  refine CI.p (zeq false 4) Tryz.call241 9999 ?_;simp;refine CI.p (qfz f hf) Tryz.call243 9999 ?_;simp;refine CI.p (zeq (zcn f) 3) Tryz.call241 9999 ?_;simp;refine CI.p (qa2 f hf) Tryz.call244 9999 ?_;simp;refine CI.p (zeq (zf1 f) 2) Tryz.call241 9999 ?_;simp;refine CI.p (qia f hf) Tryz.call245 9999 ?_;simp;refine CI.p (zeq (zcp f) 5) Tryz.call241 9999 ?_;simp;refine CI.p (qpd f hf) Tryz.call246 9999 ?_;simp;refine CI.p (qo4 f hf) Tryz.call247 9999 ?_;simp;refine CI.p (zeq (zkm f) 2) Tryz.call241 9999 ?_;simp;refine CI.g [1664] [] (qjl [4,if zcn f=true then 0 else 3,if zf1 f=true then 0 else 2,if zcp f=true then 0 else 5,zdb f.adds,if zkm f=true then 0 else 2] (by simp)) Tryz.call240 9999 ?_;simp;have e:za4 f=4:=by simp[za4,h1]
  first|exact fin0 (by simp[e]) rfl|exact zaa (by simp[e])
end Go.Proofs.YtjoaclgkjhncjaaGreatDoor
namespace Go.Proofs.YtjoaclgkjhncjaaGreatDoor
open Go.AI Go.G
set_option maxRecDepth 20000
attribute [simp] Tryz.ntmps34 Tryz.results34
theorem zci (e m:Int):Ct Tryz.prog 34 [int e,int m] [] [] (st (zfb (zcs e m))) []:=by
 refine Ct.B Tryz.func34 mixed 9999 400 ?_;simp;refine CI.p (zs9 m) Tryz.call71 9999 ?_;simp;have h:=qjp e;first|exact fin0 (by simp[zcs,h,zView,zFrame]) rfl|exact zaa (by simp[zcs,h,zView,zFrame])
attribute [simp] Tryz.ntmps215 Tryz.results215
theorem zy1 (f:G.Frame)(hf:OkFrame f):Ct Tryz.prog 215 [st (zam f)] [] [] (bool (decide (za4 f=0))) []:=by
 refine Ct.B Tryz.func215 mixed 9999 400 ?_;simp;refine CI.p (zkt f hf) Tryz.call185 9999 ?_;simp;first|exact fin0 (by simp) rfl|exact zaa (by simp)
attribute [simp] Tryz.ntmps159 Tryz.results159
theorem quz (v:View)(hv:v.held.length≤9223372036854775807)(hl:v.have_.length≤1000000):Ct Tryz.prog 159 [st (zvb v)] [] [] (bool (zvt v)) []:=by
 refine Ct.B Tryz.func159 mixed 9999 400 ?_;simp;refine CI.p (qik v.have_ hl) Tryz.call216 9999 ?_;simp;refine CI.p (zy1 (zd2 v) (qi5 v (by omega))) Tryz.call215 9999 ?_ (ha:=by simp[zd2]);simp[zd2];refine sGI (fun h1=>?_) (fun h1=>?_)<;>simp only[h1]<;>simp
 ·refine CI.p (zy1 (ze8 v) (zxy hv)) Tryz.call215 9999 ?_ (ha:=by simp[ze8]);simp[ze8];first|exact fin0 (by simp[zvt,h1,zd2,ze8]) rfl|exact zaa (by simp[zvt,h1,zd2,ze8])
 ·first|exact fin0 (by simp[zvt,h1,zd2]) rfl|exact zaa (by simp[zvt,h1,zd2])
attribute [simp] Tryz.ntmps160 Tryz.results160
theorem qpm (s:Sess)(hs:OkFrame s.v.push):Ct Tryz.prog 160 [st (zfb s)] [] [] (bool (zbl s)) []:=by
 refine Ct.B Tryz.func160 mixed 9999 400 ?_;simp;refine sGI (fun h1=>?_) (fun h1=>?_)<;>simp only[h1]<;>simp
 ·have h1':s.greeted=false:=by simpa using h1
  first|exact fin0 (by simp[zbl,h1']) rfl|exact zaa (by simp[zbl,h1'])
 have h1':s.greeted=true:=by simpa using h1
 refine CI.p (zy1 s.v.push hs) Tryz.call215 9999 ?_;simp;refine sGI (fun h2=>?_) (fun h2=>?_)<;>simp only[h2]<;>simp
 ·have h2':¬za4 s.v.push=0:=by simpa using h2
  first|exact fin0 (by simp[zbl,h2']) rfl|exact zaa (by simp[zbl,h2'])
 have h2':za4 s.v.push=0:=by simpa using h2
 refine sGI (fun h3=>?_) (fun h3=>?_)<;>simp only[h3]<;>simp
 ·have h3':¬s.v.push.type=1:=by simpa using h3
  first|exact fin0 (by simp[zbl,h3']) rfl|exact zaa (by simp[zbl,h3'])
 have h3':s.v.push.type=1:=by simpa using h3
 refine sBI (fun h4=>?_) (fun h4=>?_)<;>simp only[h4]<;>simp
 ·have h4':¬s.v.push.epoch=s.epoch:=by simpa using h4
  first|exact fin0 (by simp[zbl,h4']) rfl|exact zaa (by simp[zbl,h4'])
 have h4':s.v.push.epoch=s.epoch:=by simpa using h4
 rcases zk8 h2' with hk|hk|hk|hk
 ·simp[hk];refine sGI (fun h5=>?_) (fun h5=>?_)<;>simp only[h5]<;>simp[hk]
  ·first|exact fin0 (by simp[zbl,h1',h2',h3',h4',hk,h5,Nonce.Ou.open',Nonce.Ou.last]) rfl|exact zaa (by simp[zbl,h1',h2',h3',h4',hk,h5,Nonce.Ou.open',Nonce.Ou.last])
  ·first|exact fin0 (by simp[zbl,h1',h2',h3',h4',hk,h5,Nonce.Ou.open',Nonce.Ou.last]) rfl|exact zaa (by simp[zbl,h1',h2',h3',h4',hk,h5,Nonce.Ou.open',Nonce.Ou.last])
 ·simp[hk];refine sGI (fun h5=>?_) (fun h5=>?_)<;>simp only[h5]<;>simp[hk]
  ·first|exact fin0 (by simp[zbl,h1',h2',h3',h4',hk,h5,Nonce.Ou.open',Nonce.Ou.last]) rfl|exact zaa (by simp[zbl,h1',h2',h3',h4',hk,h5,Nonce.Ou.open',Nonce.Ou.last])
  ·first|exact fin0 (by simp[zbl,h1',h2',h3',h4',hk,h5,Nonce.Ou.open',Nonce.Ou.last]) rfl|exact zaa (by simp[zbl,h1',h2',h3',h4',hk,h5,Nonce.Ou.open',Nonce.Ou.last])
 ·simp[hk];refine sGI (fun h5=>?_) (fun h5=>?_)<;>simp only[h5]<;>simp[hk]
  ·first|exact fin0 (by simp[zbl,h1',h2',h3',h4',hk,h5,Nonce.Ou.open',Nonce.Ou.last]) rfl|exact zaa (by simp[zbl,h1',h2',h3',h4',hk,h5,Nonce.Ou.open',Nonce.Ou.last])
  ·first|exact fin0 (by simp[zbl,h1',h2',h3',h4',hk,h5,Nonce.Ou.open',Nonce.Ou.last]) rfl|exact zaa (by simp[zbl,h1',h2',h3',h4',hk,h5,Nonce.Ou.open',Nonce.Ou.last])
 ·simp[hk];refine sGI (fun h5=>?_) (fun h5=>?_)<;>simp only[h5]<;>simp[hk]
  ·first|exact fin0 (by simp[zbl,h1',h2',h3',h4',hk,h5,Nonce.Ou.open',Nonce.Ou.last]) rfl|exact zaa (by simp[zbl,h1',h2',h3',h4',hk,h5,Nonce.Ou.open',Nonce.Ou.last])
  ·first|exact fin0 (by simp[zbl,h1',h2',h3',h4',hk,h5,Nonce.Ou.open',Nonce.Ou.last]) rfl|exact zaa (by simp[zbl,h1',h2',h3',h4',hk,h5,Nonce.Ou.open',Nonce.Ou.last])
attribute [simp] Tryz.ntmps100 Tryz.results100
theorem qq1 (s:Sess)(hd:s.v.held.length≤9223372036854775807)(hs:OkFrame s.v.push)(hl:s.v.have_.length≤1000000):Ct Tryz.prog 100 [st (zfb s)] [] [] (bool (zbr s)) []:=by
 refine Ct.B Tryz.func100 mixed 9999 400 ?_;simp;refine sGI (fun h1=>?_) (fun h1=>?_)<;>simp only[h1]<;>simp
 ·skip
  refine sGI (fun h2=>?_) (fun h2=>?_)<;>simp only[h2]<;>simp
  ·skip
   refine sGI (fun h3=>?_) (fun h3=>?_)<;>simp only[h3]<;>simp
   ·skip
    refine sGI (fun h4=>?_) (fun h4=>?_)<;>simp only[h4]<;>simp
    ·skip
     refine sGI (fun h5=>?_) (fun h5=>?_)<;>simp only[h5]<;>simp
     ·skip
      refine CI.p (qo8 s.out) Tryz.call158 9999 ?_;simp;refine sGI (fun h6=>?_) (fun h6=>?_)<;>simp only[h6]<;>simp
      ·skip
       refine CI.p (quz s.v hd hl) Tryz.call159 9999 ?_;simp;refine sGI (fun h7=>?_) (fun h7=>?_)<;>simp only[h7]<;>simp
       ·skip
        refine sGI (fun h8=>?_) (fun h8=>?_)<;>simp only[h8]<;>simp
        ·first|exact fin0 (by simp[zbr,zd1,rngB,h1,h2,h3,h4,h5,h6,h7,h8]) rfl|exact zaa (by simp[zbr,zd1,rngB,h1,h2,h3,h4,h5,h6,h7,h8])
        ·refine CI.p (qpm s hs) Tryz.call160 9999 ?_;simp;first|exact fin0 (by simp[zbr,zd1,rngB,h1,h2,h3,h4,h5,h6,h7,h8]) rfl|exact zaa (by simp[zbr,zd1,rngB,h1,h2,h3,h4,h5,h6,h7,h8])
       ·first|exact fin0 (by simp[zbr,h7]) rfl|exact zaa (by simp[zbr,h7])
      ·first|exact fin0 (by simp[zbr,h6]) rfl|exact zaa (by simp[zbr,h6])
     ·first|exact fin0 (by simp[zbr,zd1,rngB,h5]) rfl|exact zaa (by simp[zbr,zd1,rngB,h5])
    ·first|exact fin0 (by simp[zbr,zd1,rngB,h4]) rfl|exact zaa (by simp[zbr,zd1,rngB,h4])
   ·first|exact fin0 (by simp[zbr,zd1,rngB,h3]) rfl|exact zaa (by simp[zbr,zd1,rngB,h3])
  ·first|exact fin0 (by simp[zbr,zd1,rngB,h2]) rfl|exact zaa (by simp[zbr,zd1,rngB,h2])
 ·first|exact fin0 (by simp[zbr,zd1,rngB,h1]) rfl|exact zaa (by simp[zbr,zd1,rngB,h1])
attribute [simp] Tryz.ntmps55 Tryz.results55
theorem qau (s:Sess)(hd:s.v.held.length≤9223372036854775807)(hs:OkFrame s.v.push)(hl:s.v.have_.length≤1000000):Ct Tryz.prog 55 [st (zfb s)] [] [] (st (zfb (zbm s))) []:=by
 refine Ct.B Tryz.func55 mixed 9999 400 ?_;simp;refine CI.p (qq1 s hd hs hl) Tryz.call100 9999 ?_;simp;refine sBI (fun h1=>?_) (fun h1=>?_)<;>simp only[h1]<;>simp
 ·have h1':zbr s=false:=by simpa using h1
  refine CI.p (zci s.epoch s.out.m) Tryz.call34 9999 ?_;simp;first|exact fin0 (by simp[zbm,h1']) rfl|exact zaa (by simp[zbm,h1'])
 ·have h1':zbr s=true:=by simpa using h1
  first|exact fin0 (by simp[zbm,h1']) rfl|exact zaa (by simp[zbm,h1'])
theorem ztb (s:Sess)(hs:OkSess s)(hl:s.v.have_.length≤1000000):Ct Tryz.prog 55 [st (zfb s)] [] [] (st (zfb (zbm s))) []:=qau s hs.v.held hs.v.push hl
attribute [simp] Tryz.ntmps248 Tryz.results248
theorem qsz (s:Sess)(p:Store)(f:G.Frame)(hp:OkStore p)(hl:f.have_.length≤1000):Ct Tryz.prog 248 [st (zfb s),st (zbg p),st (zam f)] [] [] (.tup [st (zfb (zf7 s p f).1),int (zf7 s p f).2]) []:=by
 refine Ct.B Tryz.func248 mixed 9999 400 ?_;simp;refine sBI (fun h1=>?_) (fun h1=>?_)<;>simp only[h1]<;>simp
 ·first|exact fin0 (by simp[zf7,h1]) rfl|exact zaa (by simp[zf7,h1])
 refine CI.p (qsk p f.have_ hp hl) Tryz.call311 9999 ?_;simp;have hk:=zqh p f.have_;refine sBI (fun h2=>?_) (fun h2=>?_)<;>simp only[h2]<;>simp<;>(try simp only[nT,nF,dT,dF]at h2)
 ·refine CI.cc [] (qb2 (zd6 p f.have_) (by omega)) Tryz.call49 9999 ?_;simp;first|exact fin0 (by simp[zf7,zj3,h1,h2]) rfl|exact zaa (by simp[zf7,zj3,h1,h2])
 ·first|exact fin0 (by simp[zf7,zj3,h1,h2]) rfl|exact zaa (by simp[zf7,zj3,h1,h2])
attribute [simp] Tryz.ntmps249 Tryz.results249
theorem qu9 (s:Sess)(p:Store)(f:G.Frame):Ct Tryz.prog 249 [st (zfb s),st (zbg p),st (zam f)] [] [] (.tup [st (zfb s),int 2]) []:=by
 refine Ct.B Tryz.func249 mixed 9999 400 ?_;simp;first|exact fin0 (by simp) rfl|exact zaa (by simp)
attribute [simp] Tryz.ntmps251 Tryz.results251
theorem qs7 (s:Sess)(p:Store)(f:G.Frame):Ct Tryz.prog 251 [st (zfb s),st (zbg p),st (zam f)] [] [] (.tup [st (zfb (zj5 s f).1),int (zj5 s f).2]) []:=by
 refine Ct.B Tryz.func251 mixed 9999 400 ?_;simp;refine CI.p (zz6 s.v f.turn f.held) Tryz.call314 9999 ?_;simp;first|exact fin0 (by simp[zj5]) rfl|exact zaa (by simp[zj5])
attribute [simp] Tryz.ntmps250 Tryz.results250
theorem qyq (s:Sess)(p:Store)(f:G.Frame)(hl:s.v.open_=true→s.v.have_.length+s.v.push.adds.length≤1000000∧s.v.push.gone.length≤9223372036854775807)(hp:p.hist.length≤1000000):Ct Tryz.prog 250 [st (zfb s),st (zbg p),st (zam f)] [] [] (.tup [st (zfb (ackH s p f).1),int (ackH s p f).2]) []:=by
 refine Ct.B Tryz.func250 mixed 9999 400 ?_;simp;refine CI.p (qr8 s.out f.kind f.nonce) Tryz.call312 9999 ?_;simp;refine sBI (fun h1=>?_) (fun h1=>?_)<;>simp only[h1]<;>simp<;>(try simp only[nT,nF,dT,dF]at h1)
 ·first|exact fin0 (by simp[ackH,h1]) rfl|exact zaa (by simp[ackH,h1])
 refine sBI (fun h2=>?_) (fun h2=>?_)<;>simp only[h2]<;>simp
 ·have h2':s.v.open_=false:=by simpa using h2
  first|exact fin0 (by simp[ackH,h1,h2']) rfl|exact zaa (by simp[ackH,h1,h2'])
 have h2':s.v.open_=true:=by simpa using h2
 refine CI.p (qe5 s.v f (hl h2').1 (hl h2').2) Tryz.call313 9999 ?_;simp;refine sBI (fun h3=>?_) (fun h3=>?_)<;>simp only[h3]<;>simp
 ·first|exact fin0 (by simp[ackH,h1,h2',h3]) rfl|exact zaa (by simp[ackH,h1,h2',h3])
 refine sBI (fun h4=>?_) (fun h4=>?_)<;>simp only[h4]<;>simp<;>(try simp only[nT,nF,dT,dF]at h4)
 ·have h4':64<(ansV s.v f).have_.length:=by omega
  first|exact fin0 (by simp[ackH,h1,h2',h3,h4']) rfl|exact zaa (by simp[ackH,h1,h2',h3,h4'])
 have h4':¬64<(ansV s.v f).have_.length:=by omega
 refine CI.p (ztx p hp) Tryz.call22 9999 ?_;simp;first|exact fin0 (by simp[ackH,h1,h2',h3,h4',nowI]) rfl|exact zaa (by simp[ackH,h1,h2',h3,h4',nowI])
attribute [simp] Tryz.ntmps186 Tryz.results186
theorem qtn :Ct Tryz.prog 186 [int 0] [] [] (.d (fnD 248)) []:=by
 refine Ct.B Tryz.func186 mixed 9999 400 ?_;simp;first|exact fin0 (by simp) rfl|exact zaa (by simp)
theorem qtm :Ct Tryz.prog 186 [int 1] [] [] (.d (fnD 249)) []:=by
 refine Ct.B Tryz.func186 mixed 9999 400 ?_;simp;first|exact fin0 (by simp) rfl|exact zaa (by simp)
theorem qtl :Ct Tryz.prog 186 [int 2] [] [] (.d (fnD 250)) []:=by
 refine Ct.B Tryz.func186 mixed 9999 400 ?_;simp;first|exact fin0 (by simp) rfl|exact zaa (by simp)
theorem qtk :Ct Tryz.prog 186 [int 3] [] [] (.d (fnD 251)) []:=by
 refine Ct.B Tryz.func186 mixed 9999 400 ?_;simp;first|exact fin0 (by simp) rfl|exact zaa (by simp)
attribute [simp] Tryz.ntmps119 Tryz.results119
theorem qi9 (s:Sess)(p:Store)(f:G.Frame)(hd:s.v.held.length≤9223372036854775807)(hs:OkFrame s.v.push)(hl:s.v.have_.length≤1000000)(hf:OkFrame f)(hp:OkStore p)(hpl:p.hist.length≤1000000):Ct Tryz.prog 119 [st (zfb s),st (zbg p),st (zam f)] [] [] (.tup [st (zfb (handle s p f).1),int (handle s p f).2]) []:=by
 refine Ct.B Tryz.func119 mixed 9999 400 ?_;simp;refine CI.p (qau s hd hs hl) Tryz.call55 9999 ?_;simp;have hq0:=zph s;have hh:handle s p f=zcj (zbm s) p f:=rfl;rw[hh];clear hh;generalize zbm s=q at hq0⊢;have S:=saneS_iff.1 hq0;refine CI.p (zkt f hf) Tryz.call185 9999 ?_;simp;refine sBI (fun h1=>?_) (fun h1=>?_)<;>simp only[h1]<;>simp<;>(try simp only[nT,nF,dT,dF]at h1)
 ·first|exact fin0 (by simp[zcj,h1]) rfl|exact zaa (by simp[zcj,h1])
 refine sBI (fun h2=>?_) (fun h2=>?_)<;>simp only[h2]<;>simp<;>(try simp only[nT,nF,dT,dF]at h2)
 ·first|exact fin0 (by simp[zcj,h1,h2]) rfl|exact zaa (by simp[zcj,h1,h2])
 have F:=frameE_zero.1 h1;have L:=zcv F.small;have hS:=S.hl;rcases zv9 h1 with h3|h3|h3|h3
 ·refine CI.p qtn Tryz.call186 9999 ?_ (ha:=by simp[h3]);simp[h3];refine CI.ff (FnOk.of (qsz q p f hp (by omega)) Tryz.call248 rfl rfl) rfl rfl rfl 9999 ?_ (ha:=by simp[h3]);simp[h3];refine⟨by decide+kernel,?_⟩;first|exact fin0 (by simp[zcj,h1,h2,h3]) rfl|exact zaa (by simp[zcj,h1,h2,h3])
 ·refine CI.p qtm Tryz.call186 9999 ?_ (ha:=by simp[h3]);simp[h3];refine CI.ff (FnOk.of (qu9 q p f) Tryz.call249 rfl rfl) rfl rfl rfl 9999 ?_ (ha:=by simp[h3]);simp[h3];refine⟨by decide+kernel,?_⟩;first|exact fin0 (by simp[zcj,h1,h2,h3]) rfl|exact zaa (by simp[zcj,h1,h2,h3])
 ·refine CI.p qtl Tryz.call186 9999 ?_ (ha:=by simp[h3]);simp[h3];refine CI.ff (FnOk.of (qyq q p f (qvk S) hpl) Tryz.call250 rfl rfl) rfl rfl rfl 9999 ?_ (ha:=by simp[h3]);simp[h3];refine⟨by decide+kernel,?_⟩;first|exact fin0 (by simp[zcj,h1,h2,h3]) rfl|exact zaa (by simp[zcj,h1,h2,h3])
 ·refine CI.p qtk Tryz.call186 9999 ?_ (ha:=by simp[h3]);simp[h3];refine CI.ff (FnOk.of (qs7 q p f) Tryz.call251 rfl rfl) rfl rfl rfl 9999 ?_ (ha:=by simp[h3]);simp[h3];refine⟨by decide+kernel,?_⟩;first|exact fin0 (by simp[zcj,h1,h2,h3]) rfl|exact zaa (by simp[zcj,h1,h2,h3])
end Go.Proofs.YtjoaclgkjhncjaaGreatDoor
