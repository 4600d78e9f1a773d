/-
  LAYERS 9, 10, 13, 20: the walks of policies' exported functions, of numbers of pushes, of frames, of sessions.
-/
import Derived.Test.YtekckhepcdndcaaGreatDoorWe
import Derived.Test.YtekckhepcdndcaaGreatDoorAs
import Derived.Test.YtekckhepcdndcaaGreatDoorPs
import Derived.Test.YtekckhepcdndcaaGreatDoorFd
import Derived.Test.YtekckhepcdndcaaGreatDoorWa
import Derived.Test.YtekckhepcdndcaaGreatDoorFc
set_option linter.unusedSimpArgs false
set_option linter.unusedVariables false
section
open Go.RowKit
namespace Go.Proofs.YtekckhepcdndcaaGreatDoor
open Go.AI Go.G
set_option maxRecDepth 20000
abbrev errV :Value:=.iface 400 (.agg #[.pointer (some ⟨4,230,none⟩)])
def errG :(Nat→Prop)→World→Prop:=fun I w=>I 0∧w.cell? ⟨0,0,none⟩=some errV
theorem errK :qm7 errG:=fun I I' w w' h h1 h2=>⟨h2 0 h.1,(zgd (h1 0 h.1)).trans h.2⟩
set_option maxHeartbeats 4000000 in
theorem qjh (b:Nat)(e:Int)(w:World)(hg:w.cell? ⟨0,0,none⟩=some errV)(hc:w.cell? ⟨b,0,none⟩=some (.int .i64 e)):
  Calls Tryz.prog 143 #[.iface 275 (.pointer (some ⟨b,0,none⟩))] w fun ev w'=>ev=.returned (.int .i64 e)∧Below w.heap.size w w'∧w.drawn≤w'.drawn:=by
 have hlt:0<w.heap.size:=by
  rcases Nat.eq_zero_or_pos w.heap.size with h0|h
  ·simp[World.cell?,h0]at hg
  ·exact h
 have hbl:b<w.heap.size:=by
  rcases Nat.lt_or_ge b w.heap.size with h|h
  ·exact h
  ·simp[World.cell?,Array.getElem?_eq_none h]at hc
 have hgA:(w.alloc (.cells #[.pointer none] 275)).cell? ⟨0,0,none⟩=some errV:=by
  rw[World.cell?_alloc_lt _ _ ⟨0,0,none⟩ hlt];exact hg
 have htA:(w.alloc (.cells #[.pointer none] 275)).cell? ⟨w.heap.size,0,none⟩=some (.pointer none):=by simp
 have hfA:(w.alloc (.cells #[.pointer none] 275)).frozen? ⟨w.heap.size,0,none⟩=false:=by simp
 have hAs:Calls Tryz.prog 186 #[.iface 275 (.pointer (some ⟨b,0,none⟩)),.iface 277 (.pointer (some ⟨w.heap.size,0,none⟩))] (w.alloc (.cells #[.pointer none] 275)) fun ev w'=>
   ev=.returned (.bool true)∧w'.cell? ⟨w.heap.size,0,none⟩=some (.pointer (some ⟨b,0,none⟩))∧w'.cell? ⟨b,0,none⟩=some (.int .i64 e)∧Below w.heap.size w w'∧w.drawn≤w'.drawn:=by
  refine(qwd _ _ (.pointer none) _ hgA htA hfA).mono ?_;rintro ev w' ⟨rfl,rfl⟩;have hB:Below w.heap.size w (((((w.alloc (.cells #[.pointer none] 275)).alloc (.cells #[.pointer (some ⟨w.heap.size,0,none⟩)] 277)).alloc (.cells #[.pointer (some ⟨4,277,none⟩),.pointer (some ⟨(w.alloc (.cells #[.pointer none] 275)).heap.size,0,none⟩),.int .u64 150] 330)).alloc (.cells #[.pointer (some ⟨4,277,none⟩),.pointer (some ⟨(w.alloc (.cells #[.pointer none] 275)).heap.size,0,none⟩),.int .u64 150] 330)).alloc (.cells #[.pointer (some ⟨b,0,none⟩)] 275)):=
   (((((Below.refl _ w).alloc (Nat.le_refl _) _).alloc (by simp) _).alloc (by simp;omega) _).alloc (by simp;omega) _).alloc (by simp;omega) _
  refine⟨rfl,?_,?_,hB.setCell (p:=⟨w.heap.size,0,none⟩) (by simp) _,Nat.le_refl _⟩
  ·refine(zc8 (ztr (t:=275) (v:=.pointer none) ?_ _)).1;refine(Below.heap_alloc _ _ _ (by simp;omega)).trans ?_;refine(Below.heap_alloc _ _ _ (by simp;omega)).trans ?_;refine(Below.heap_alloc _ _ _ (by simp;omega)).trans ?_;refine(Below.heap_alloc _ _ _ (by simp)).trans ?_;exact World.alloc_heap_new w _
  ·have h1:=hB.block b hbl;refine(zgd (a:=⟨b,0,none⟩) ((zco _ (show b≠w.heap.size by omega)).trans h1)).trans hc
 go_enter Tryz.func143,Tryz.ntmps143
 go_wp2_with (go_at_call 186;refine hAs.mono ?_;rintro ev w' ⟨rfl,c1,c2,c3,c4⟩)
 go_ret
 exact⟨rfl,c3,c4⟩
theorem qjg (w:World):Calls Tryz.prog 143 #[.nilIface] w fun ev w'=>ev=.returned (.int .i64 0)∧Below w.heap.size w w'∧w.drawn≤w'.drawn:=by
 go_enter Tryz.func143,Tryz.ntmps143
 go_wp2_with (go_at_call 186;refine(qwc _ _).mono ?_;rintro ev w' ⟨rfl,rfl⟩)
 go_ret
 exact⟨rfl,(Below.refl _ w).alloc (Nat.le_refl _) _,Nat.le_refl _⟩
theorem qom :CtJ errG Tryz.prog 143 [.d (.v .nilIface)] [] [] (int 0) []:=by
 refine CtJ.of_below fun σ I w vs hG hI hl ha hm=>?_
 match vs,hl with
 |[v],_=>
  have h0:=ha 0 _ v rfl rfl;obtain rfl:=RV_v h0;exact qjg w
theorem qol (e:Int)(cs:List AV)(T:TypeId):CtJ errG Tryz.prog 143 [.ifc 275 (.ptr 0 0)] [(0,.cells (int e::cs) T)] [] (int e) []:=by
 refine CtJ.of_below fun σ I w vs hG hI hl ha hm=>?_
 match vs,hl with
 |[v],_=>
  have h0:=ha 0 _ v rfl rfl;obtain⟨y,hy,hb,hn⟩:=hm.blk 0 _ rfl;cases h0 with
  |ifc h0=>cases h0 with
   | @ptr _ _ n h0=>
     rw[h0]at hy;cases hy;cases hb with
     | @cells _ _ _ arr c1 c2 c3=>
       refine qjh n e w hG.2 ?_;have hlt:0<arr.size:=by rw[c2];simp
       have e0:arr[0]? =some arr[0]:=Array.getElem?_eq_getElem hlt;have:=c3 0 _ arr[0] rfl e0;have e1:arr[0]=.int .i64 e:=by
        generalize arr[0]=z at this;exact RV_v this
       simp[World.cell?,c1,e0,e1]
theorem zzj (s:Store):¬(za3 s).hist=[]:=by
 unfold za3;split
 ·simp[newS]
 ·rename_i h;simpa using h
theorem zub {s:Store}(hl:s.hist.length≤1000000):(za3 s).hist.length≤1000000:=by
 unfold za3;split
 ·simp[newS]
 ·exact hl
attribute [simp] Tryz.ntmps24 Tryz.results24
theorem zsu (s:Store)(hl:s.hist.length≤1000000):Ct Tryz.prog 24 [st (zbf s)] [] [] (.tup [int ((za3 s).hist.length-1),lst ((zca (za3 s)).map resC)]) []:=by
 refine Ct.B Tryz.func24 mixed 9999 400 ?_;simp;refine CI.p (zxk s) Tryz.call45 9999 ?_;simp;have h1:=zzj s;have h2:=zub hl;have h0:0<(za3 s).hist.length:=List.length_pos_iff.2 h1;have hw:IntKind.wrap .i64 (((za3 s).hist.length:Int)-1)=((za3 s).hist.length:Int)-1:=zab (by omega) (by omega);refine CI.p (qhh (za3 s) h1 h2) Tryz.call46 9999 ?_;simp;refine⟨by decide+kernel,?_⟩;first|exact fin0 (by simp[hw]) rfl|exact zaa (by simp[hw])
attribute [simp] Tryz.ntmps105 Tryz.results105
theorem qi8 (s:Store)(adds:List Res)(gone:List Key)(hl:s.hist.length≤1000000)(hok:OkRs (zca (za3 s)))(hn:(zca (za3 s)).length+adds.length≤1000000)(hg:gone.length≤9223372036854775807):CtJ errG Tryz.prog 105 [st (zbf s),lst (adds.map resC),lst (gone.map keyC)] [] [] (.tup [st (zbf (zk2 (za3 s) adds gone)),int (zh2 (za3 s) adds gone)]) []:=by
 refine CtJ.B errK Tryz.func105 mixed 9999 400 ?_;simp;refine CI.p (zxk s) Tryz.call45 9999 ?_;simp;have h1:=zzj s;have h2:=zub hl;have hp:=qf6 (za3 s) adds gone h1 h2 hok hn hg;by_cases he:zh2 (za3 s) adds gone=0
 ·simp only[errA,errM,if_pos he]at hp;refine CI.p hp Tryz.call142 9999 ?_;simp;refine CI.j [] qom Tryz.call143 9999 ?_;simp;refine⟨by decide+kernel,?_⟩;first|exact fin0 (by simp[he]) rfl|exact zaa (by simp[he])
 ·simp only[errA,errM,if_neg he]at hp;refine CI.cc [] hp Tryz.call142 9999 ?_;simp;refine CI.j [512] (qol (zh2 (za3 s) adds gone) [int (za3 s).hist.length] 279) Tryz.call143 9999 ?_;simp;refine⟨by decide+kernel,?_⟩;first|exact fin0 (by simp[he]) rfl|exact zaa (by simp[he])
end Go.Proofs.YtekckhepcdndcaaGreatDoor
end
namespace Go.Proofs.YtekckhepcdndcaaGreatDoor
open Go.AI Go.G
set_option maxRecDepth 20000
abbrev nnC (i:Nonce.Nn):List D:=[iD i.l0,iD i.l1,iD i.l2,iD i.l3,iD i.m]
attribute [simp] Tryz.ntmps124 Tryz.results124
theorem qv4 (n:Int):Ct Tryz.prog 124 [int n] [] [] (int (Nonce.bnd n)) []:=by
 refine Ct.B Tryz.func124 mixed 9999 400 ?_;simp;have e:=qsd n;first|exact fin0 (by simp[e]) rfl|exact zaa (by simp[e])
attribute [simp] Tryz.ntmps84 Tryz.results84
theorem zr9 (n:Int):Ct Tryz.prog 84 [int n] [] [] (.tup [st (ouC (Nonce.startO n)),st (nnC (Nonce.startI n))]) []:=by
 refine Ct.B Tryz.func84 mixed 9999 400 ?_;simp;refine CI.p (qv4 n) Tryz.call124 9999 ?_;simp;first|exact fin0 (by simp[Nonce.startO,Nonce.startI]) rfl|exact zaa (by simp[Nonce.startO,Nonce.startI])
attribute [simp] Tryz.ntmps195 Tryz.results195
theorem zta (k_:Int):Ct Tryz.prog 195 [int k_] [] [] (bool (Nonce.kindB k_)) []:=by
 refine Ct.B Tryz.func195 mixed 9999 400 ?_;simp;refine sGI (fun h1=>?_) (fun h1=>?_)<;>simp only[h1]<;>simp<;>(try simp only[nT,nF,dT,dF]at h1)
 ·first|exact fin0 (by simp[Nonce.kindB,h1]) rfl|exact zaa (by simp[Nonce.kindB,h1])
 ·first|exact fin0 (by simp[Nonce.kindB,h1]) rfl|exact zaa (by simp[Nonce.kindB,h1])
attribute [simp] Tryz.ntmps215 Tryz.results215
theorem zsc (i:Nonce.Nn):Ct Tryz.prog 215 [st (nnC i)] [] [] (bool (Nonce.soundB i)) []:=by
 refine Ct.B Tryz.func215 mixed 9999 400 ?_;simp;refine LoopI.unroll mixed (Plain.retC _ _ _ _ _) rfl ?_;refine CI.run 9999 400 rfl ?_;simp;refine⟨by decide+kernel,?_⟩;refine LoopI.unroll mixed (Plain.retC _ _ _ _ _) rfl ?_;refine CI.run 9999 400 rfl ?_;simp;refine⟨by decide+kernel,?_⟩;refine LoopI.unroll mixed (Plain.retC _ _ _ _ _) rfl ?_;refine CI.run 9999 400 rfl ?_;simp;refine⟨by decide+kernel,?_⟩;refine LoopI.unroll mixed (Plain.retC _ _ _ _ _) rfl ?_;refine CI.run 9999 400 rfl ?_;simp;refine⟨by decide+kernel,?_⟩;refine LoopI.unroll mixed (Plain.retC _ _ _ _ _) rfl ?_;refine CI.run 9999 400 rfl ?_;simp;refine sGI (fun h=>?_) (fun h=>?_)<;>simp only[h]<;>simp
 ·refine CI.p (qv4 i.m) Tryz.call124 9999 ?_;simp;have e:=qeg i h;first|exact fin0 (by simp[e]) rfl|exact zaa (by simp[e])
 ·have e:=qjq i h;first|exact fin0 (by simp[e]) rfl|exact zaa (by simp[e])
attribute [simp] Tryz.ntmps167 Tryz.results167
theorem qn1 (o:Nonce.Ou):Ct Tryz.prog 167 [st (ouC o)] [] [] (bool (Nonce.goodB o)) []:=by
 refine Ct.B Tryz.func167 mixed 9999 400 ?_;simp;obtain⟨a,b,c,d,x,y,z,t,m⟩:=o;refine LoopI.unroll mixed (Plain.retC _ _ _ _ _) rfl ?_;refine CI.run 9999 400 rfl ?_;simp
 repeat' first
  | (refine sGI (fun h=>?_) (fun h=>?_)<;>simp only[h]<;>simp[h])
  | (refine sBI (fun h=>?_) (fun h=>?_)<;>simp only[h]<;>simp[h])
  | (refine⟨(show za5 _ _ from by decide+kernel),?_⟩)
  |fail
 all_goals(first| (exact fin0 (by simp[Nonce.goodB, *]) rfl)| (refine⟨by decide+kernel,?_⟩;exact fin0 (by simp[Nonce.goodB, *]) rfl)|skip)
 all_goals
  refine LoopI.unroll mixed (Plain.retC _ _ _ _ _) rfl ?_;refine CI.run 9999 400 rfl ?_;simp
 repeat' first
  | (refine sGI (fun h=>?_) (fun h=>?_)<;>simp only[h]<;>simp[h])
  | (refine sBI (fun h=>?_) (fun h=>?_)<;>simp only[h]<;>simp[h])
  | (refine⟨(show za5 _ _ from by decide+kernel),?_⟩)
  |fail
 all_goals(first| (exact fin0 (by simp[Nonce.goodB, *]) rfl)| (refine⟨by decide+kernel,?_⟩;exact fin0 (by simp[Nonce.goodB, *]) rfl)|skip)
 all_goals
  refine LoopI.unroll mixed (Plain.retC _ _ _ _ _) rfl ?_;refine CI.run 9999 400 rfl ?_;simp
 repeat' first
  | (refine sGI (fun h=>?_) (fun h=>?_)<;>simp only[h]<;>simp[h])
  | (refine sBI (fun h=>?_) (fun h=>?_)<;>simp only[h]<;>simp[h])
  | (refine⟨(show za5 _ _ from by decide+kernel),?_⟩)
  |fail
 all_goals(first| (exact fin0 (by simp[Nonce.goodB, *]) rfl)| (refine⟨by decide+kernel,?_⟩;exact fin0 (by simp[Nonce.goodB, *]) rfl)|skip)
 all_goals
  refine LoopI.unroll mixed (Plain.retC _ _ _ _ _) rfl ?_;refine CI.run 9999 400 rfl ?_;simp
 repeat' first
  | (refine sGI (fun h=>?_) (fun h=>?_)<;>simp only[h]<;>simp[h])
  | (refine sBI (fun h=>?_) (fun h=>?_)<;>simp only[h]<;>simp[h])
  | (refine⟨(show za5 _ _ from by decide+kernel),?_⟩)
  |fail
 all_goals(first| (exact fin0 (by simp[Nonce.goodB, *]) rfl)| (refine⟨by decide+kernel,?_⟩;exact fin0 (by simp[Nonce.goodB, *]) rfl)|skip)
 all_goals
  refine LoopI.unroll mixed (Plain.retC _ _ _ _ _) rfl ?_;refine CI.run 9999 400 rfl ?_;simp
 all_goals
  refine CI.p (zsc ⟨a,b,c,d,m⟩) Tryz.call215 9999 ?_;simp
 all_goals(first| (exact fin0 (by simp[Nonce.goodB,Nonce.Ou.toI, *]) rfl)| (refine⟨by decide+kernel,?_⟩;exact fin0 (by simp[Nonce.goodB,Nonce.Ou.toI, *]) rfl))
attribute [simp] Tryz.ntmps242 Tryz.results242
theorem qt8 (o:Nonce.Ou):Ct Tryz.prog 242 [st (ouC o)] [] [] (st (ouC (Nonce.outF o))) []:=by
 refine Ct.B Tryz.func242 mixed 9999 400 ?_;simp;refine CI.p (qn1 o) Tryz.call167 9999 ?_;simp;refine sBI (fun h1=>?_) (fun h1=>?_)<;>simp only[h1]<;>simp<;>(try simp only[nT,nF,dT,dF]at h1)
 ·first|exact fin0 (by simp[Nonce.outF,h1]) rfl|exact zaa (by simp[Nonce.outF,h1])
 ·refine CI.p (zr9 o.m) Tryz.call84 9999 ?_;simp;first|exact fin0 (by simp[Nonce.outF,h1]) rfl|exact zaa (by simp[Nonce.outF,h1])
attribute [simp] Tryz.ntmps188 Tryz.results188
theorem qgs (o:Nonce.Ou)(k_:Int):Ct Tryz.prog 188 [st (ouC o),int k_] [] [] (.tup [st (ouC (Nonce.push o k_).1),int (Nonce.push o k_).2.1,int (Nonce.push o k_).2.2]) []:=by
 refine Ct.B Tryz.func188 mixed 9999 400 ?_;simp;refine CI.p (qt8 o) Tryz.call242 9999 ?_;simp;simp only[Nonce.push];have hb:=Nonce.outF_ok o;generalize Nonce.outF o=q at hb⊢;obtain⟨A,B,C,D,X,Y,Z,T,M⟩:=q;simp only[Nonce.Ou.ok]at hb;have wA:IntKind.wrap .i64 (A+1)=A+1:=zab (by omega) (by omega);have wB:IntKind.wrap .i64 (B+1)=B+1:=zab (by omega) (by omega);have wC:IntKind.wrap .i64 (C+1)=C+1:=zab (by omega) (by omega);have wD:IntKind.wrap .i64 (D+1)=D+1:=zab (by omega) (by omega);refine CI.p (zta k_) Tryz.call195 9999 ?_;simp;by_cases hk:Nonce.kindB k_=true
 ·rcases Nonce.kindB_is hk with rfl|rfl|rfl|rfl
  all_goals
   simp[hk]
  all_goals
   repeat' first
    | (refine sGI (fun h=>?_) (fun h=>?_)<;>simp only[h]<;>simp[h,wA,wB,wC,wD])
    | (refine sBI (fun h=>?_) (fun h=>?_)<;>simp only[h]<;>simp[h,wA,wB,wC,wD])
    | (refine⟨(show za5 _ _ from by decide+kernel),?_⟩)
    |fail
  all_goals
   clear wA wB wC wD;first
    | (refine fin0 ?_ rfl;simp_all[Nonce.pushQ,Nonce.Ou.open',Nonce.Ou.last,Nonce.Ou.set];done)
    | (refine⟨by decide+kernel,fin0 ?_ rfl⟩;simp_all[Nonce.pushQ,Nonce.Ou.open',Nonce.Ou.last,Nonce.Ou.set];done)
 ·simp[hk];first|exact fin0 (by simp[Nonce.pushQ,hk]) rfl|exact zaa (by simp[Nonce.pushQ,hk])
attribute [simp] Tryz.ntmps261 Tryz.results261
theorem qq1 (o:Nonce.Ou)(k_ n:Int):Ct Tryz.prog 261 [st (ouC o),int k_,int n] [] [] (.tup [st (ouC (Nonce.done o k_ n).1),int (Nonce.done o k_ n).2]) []:=by
 refine Ct.B Tryz.func261 mixed 9999 400 ?_;simp;refine CI.p (qt8 o) Tryz.call242 9999 ?_;simp;simp only[Nonce.done];generalize Nonce.outF o=q;obtain⟨A,B,C,D,X,Y,Z,T,M⟩:=q;refine CI.p (zta k_) Tryz.call195 9999 ?_;simp;by_cases hk:Nonce.kindB k_=true
 ·rcases Nonce.kindB_is hk with rfl|rfl|rfl|rfl
  all_goals
   simp[hk]
  all_goals
   repeat' first
    | (refine sGI (fun h=>?_) (fun h=>?_)<;>simp only[h]<;>simp[h])
    | (refine sBI (fun h=>?_) (fun h=>?_)<;>simp only[h]<;>simp[h])
    | (refine⟨(show za5 _ _ from by decide+kernel),?_⟩)
    |fail
  all_goals
   first
    | (refine fin0 ?_ rfl;simp_all[Nonce.doneQ,Nonce.Ou.open',Nonce.Ou.last,Nonce.Ou.set];done)
    | (refine⟨by decide+kernel,fin0 ?_ rfl⟩;simp_all[Nonce.doneQ,Nonce.Ou.open',Nonce.Ou.last,Nonce.Ou.set];done)
 ·simp[hk];first|exact fin0 (by simp[Nonce.doneQ,hk]) rfl|exact zaa (by simp[Nonce.doneQ,hk])
end Go.Proofs.YtekckhepcdndcaaGreatDoor
namespace Go.Proofs.YtekckhepcdndcaaGreatDoor
open Go.AI Go.G
set_option maxRecDepth 20000
attribute [simp] Tryz.ntmps136 Tryz.results136
theorem qlq (l:List G.Mark)(kf:D)(p:G.Mark→Bool)(hf:∀x∈l,FnOk Tryz.prog (.d kf) [st (zdx x)] (bool (p x)))(hl:l.length≤9223372036854775807):Ct Tryz.prog 136 [lst (l.map zdx),.d kf] [] [] (int (idxF p l)) []:=by
 refine Ct.B Tryz.func136 mixed 9999 400 ?_;simp;refine LoopI.inv mixed rfl (ι:={k:Nat//k≤(l).length∧(l.take k).all (fun x=>!p x)=true}) (fun k=>[(0,lst (l.map zdx)),(1,.d kf),(7,int l.length),(8,int k.1)]) (fun k=>[]) 64 (fun k=>(l).length-k.1) ⟨0,by omega,by simp⟩ [] (by constructor<;>simp) ?_;rintro⟨k,hk1,hi⟩ B hB;refine CI.run 9999 400 rfl ?_;simp;refine sBI (fun h=>?_) (fun h=>?_)
 ·have hk:k<(l).length:=by simpa using h
  obtain⟨r,hx,hr,hm,ht,hd⟩:=inL hk;have hw:=wr (k:=k) (by omega);simp only[h];simp[hr,hw];refine CI.ff (hf r hm) rfl rfl rfl 9999 ?_;simp;refine sBI (fun hp=>?_) (fun hp=>?_)<;>simp only[hp]<;>simp
  ·first|exact fin0 (by simp[zcr hi hr hp]) rfl|exact zaa (by simp[zcr hi hr hp])
  ·refine hB _ ⟨k+1,by omega,by simp[ht,hi,hp]⟩ [] ?_ (by simp;omega);constructor<;>simp[hw,ht,hp]
 ·have hkl:k=(l).length:=by simp at h;omega
  subst hkl;simp only[h];simp[List.take_length,List.drop_length];rw[List.take_length]at hi;first|exact fin0 (by simp[zbc (fun x hx=>by have:=List.all_eq_true.1 hi x hx;simpa using this)]) rfl|exact zaa (by simp[zbc (fun x hx=>by have:=List.all_eq_true.1 hi x hx;simpa using this)])
attribute [simp] Tryz.ntmps95 Tryz.results95
theorem qbk (l:List G.Mark)(kf:D)(p:G.Mark→Bool)(hf:∀x∈l,FnOk Tryz.prog (.d kf) [st (zdx x)] (bool (p x)))(hl:l.length≤9223372036854775807):Ct Tryz.prog 95 [lst (l.map zdx),.d kf] [] [] (bool (l.any p)) []:=by
 refine Ct.B Tryz.func95 mixed 9999 400 ?_;simp;refine CI.p (qlq l kf p hf hl) Tryz.call136 9999 ?_;simp;rw[zgb];first|exact fin0 (by simp) rfl|exact zaa (by simp)
attribute [simp] Tryz.ntmps61 Tryz.results61
theorem zf5 (n m:Int):Ct Tryz.prog 61 [int n,int m] [] [] (bool (rngB n m)) []:=by
 refine Ct.B Tryz.func61 mixed 9999 400 ?_;simp
 repeat' first
  | (refine sGI (fun h=>?_) (fun h=>?_)<;>simp only[h]<;>simp[h])
  | (refine sBI (fun h=>?_) (fun h=>?_)<;>simp only[h]<;>simp[h])
  | (refine⟨(show za5 _ _ from by decide+kernel),?_⟩)
  |fail
 all_goals exact fin0 (by simp[*,rngB]) rfl
attribute [simp] Tryz.ntmps60 Tryz.results60
theorem zeh (b:Bool)(e:Int):Ct Tryz.prog 60 [bool b,int e] [] [] (int (if b=true then 0 else e)) []:=by
 refine Ct.B Tryz.func60 mixed 9999 400 ?_;simp;refine sBI (fun h1=>?_) (fun h1=>?_)<;>simp only[h1]<;>simp
 ·first|exact fin0 (by simp[h1]) rfl|exact zaa (by simp[h1])
 ·first|exact fin0 (by simp[h1]) rfl|exact zaa (by simp[h1])
attribute [simp] Tryz.ntmps59 Tryz.results59
theorem qh9 (l:List Int)(hl:l.length≤1000):Ct Tryz.prog 59 [lst (l.map intC)] [] [] (int ((l.find? fun e=>!decide (e=0)).getD 0)) []:=by
 refine Ct.B Tryz.func59 mixed 9999 400 ?_;simp;refine LoopI.inv mixed rfl (ι:={k:Nat//k≤(l).length∧(l.take k).all (fun e=>decide (e=0))=true}) (fun k=>[(5,lst (l.map intC)),(6,int l.length),(7,int k.1)]) (fun k=>[]) 64 (fun k=>(l).length-k.1) ⟨0,by omega,by simp⟩ [] (by constructor<;>simp) ?_;rintro⟨k,hk1,hi⟩ B hB;refine CI.run 9999 400 rfl ?_;simp;refine sBI (fun h=>?_) (fun h=>?_)
 ·have hk:k<(l).length:=by simpa using h
  obtain⟨x,hx,hr,hm,ht,hd⟩:=inL hk;have hw:=wr (k:=k) (by omega);simp only[h];simp[hr,hw];refine sBI (fun h1=>?_) (fun h1=>?_)<;>simp only[h1]<;>simp<;>(try simp only[nT,nF,dT,dF]at h1)
  ·have e:(l.find? fun e=>!decide (e=0))=some x:=ql2 hi hr h1;first|exact fin0 (by simp[e]) rfl|exact zaa (by simp[e])
  ·refine hB _ ⟨k+1,by omega,by simp[ht,hi,h1]⟩ [] ?_ (by simp;omega);constructor<;>simp[hw,ht,h1]
 ·have hkl:k=(l).length:=by simp at h;omega
  subst hkl;simp only[h];simp[List.take_length,List.drop_length];rw[List.take_length]at hi;have e:(l.find? fun e=>!decide (e=0))=none:=qh7 hi;first|exact fin0 (by simp[e]) rfl|exact zaa (by simp[e])
attribute [simp] Tryz.ntmps96 Tryz.results96
theorem qjv (m:G.Mark):Ct Tryz.prog 96 [st (zdx m)] [] [] (bool (!rngB m.ver 2147483647)) []:=by
 refine Ct.B Tryz.func96 mixed 9999 400 ?_;simp;refine CI.p (zf5 m.ver 2147483647) Tryz.call61 9999 ?_;simp;first|exact fin0 (by simp) rfl|exact zaa (by simp)
attribute [simp] Tryz.ntmps62 Tryz.results62
theorem qek (f:G.Frame)(hf:OkFrame f):Ct Tryz.prog 62 [st (zai f)] [] [] (bool (zcc f)) []:=by
 refine Ct.B Tryz.func62 mixed 9999 400 ?_;simp;refine CI.p (qbk f.have_ (fnD 96) (fun m=>!rngB m.ver 2147483647) (fun m _=>FnOk.of (qjv m) Tryz.call96 rfl rfl) hf.have_) Tryz.call95 9999 ?_;simp;rw[zms];refine sGI (fun h1=>?_) (fun h1=>?_)<;>simp only[h1]<;>simp
 ·have hl:f.adds.length≤64∧f.gone.length≤64∧f.have_.length≤64∧f.held.length≤64:=by
   simp only[Bool.not_eq_true',decide_eq_false_iff_not]at h1
   (repeat' split at h1)<;>omega
  obtain⟨l1,l2,l3,l4⟩:=hl;refine sGI (fun h2=>?_) (fun h2=>?_)<;>simp only[h2]<;>simp
  ·refine CI.p (zf5 f.epoch 2147483647) Tryz.call61 9999 ?_;simp;refine sGI (fun h3=>?_) (fun h3=>?_)<;>simp only[h3]<;>simp
   ·refine CI.p (zf5 f.nonce 2147483647) Tryz.call61 9999 ?_;simp;refine sGI (fun h4=>?_) (fun h4=>?_)<;>simp only[h4]<;>simp
    ·refine CI.p (zf5 f.turn 2147483647) Tryz.call61 9999 ?_;simp;refine sGI (fun h5=>?_) (fun h5=>?_)<;>simp only[h5]<;>simp
     ·refine CI.p (zf5 f.err 15) Tryz.call61 9999 ?_;simp;first|exact fin0 (by simp[zcc,l1,l2,l3,l4,h2,h3,h4,h5]) rfl|exact zaa (by simp[zcc,l1,l2,l3,l4,h2,h3,h4,h5])
     ·first|exact fin0 (by simp[zcc,h5]) rfl|exact zaa (by simp[zcc,h5])
    ·first|exact fin0 (by simp[zcc,h4]) rfl|exact zaa (by simp[zcc,h4])
   ·first|exact fin0 (by simp[zcc,h3]) rfl|exact zaa (by simp[zcc,h3])
  ·first|exact fin0 (by simp[zcc,h2]) rfl|exact zaa (by simp[zcc,h2])
 ·have hl:zcc f=false:=by
   rw[Bool.eq_false_iff];intro hs;obtain⟨l1,l2,l3,l4,_⟩:=zcm hs;simp only[Bool.not_eq_false',decide_eq_true_eq]at h1
   (repeat' split at h1)<;>omega
  first|exact fin0 (by simp[hl]) rfl|exact zaa (by simp[hl])
attribute [simp] Tryz.ntmps98 Tryz.results98
theorem qv6 (f:G.Frame):Ct Tryz.prog 98 [st (zai f)] [] [] (st (zai (zjl f))) []:=by
 refine Ct.B Tryz.func98 mixed 9999 400 ?_;simp;refine sBI (fun h1=>?_) (fun h1=>?_)<;>simp only[h1]<;>simp<;>(try simp only[nT,nF,dT,dF]at h1)
 ·first|exact fin0 (by simp[zjl,h1]) rfl|exact zaa (by simp[zjl,h1])
 refine sBI (fun h2=>?_) (fun h2=>?_)<;>simp only[h2]<;>simp<;>(try simp only[nT,nF,dT,dF]at h2)
 ·first|exact fin0 (by simp[zjl,h1,h2]) rfl|exact zaa (by simp[zjl,h1,h2])
 refine sBI (fun h3=>?_) (fun h3=>?_)<;>simp only[h3]<;>simp<;>(try simp only[nT,nF,dT,dF]at h3)
 ·first|exact fin0 (by simp[zjl,h1,h2,h3]) rfl|exact zaa (by simp[zjl,h1,h2,h3])
 refine sBI (fun h4=>?_) (fun h4=>?_)<;>simp only[h4]<;>simp<;>(try simp only[nT,nF,dT,dF]at h4)
 ·first|exact fin0 (by simp[zjl,h1,h2,h3,h4]) rfl|exact zaa (by simp[zjl,h1,h2,h3,h4])
 ·first|exact fin0 (by simp[zjl,h1,h2,h3,h4]) rfl|exact zaa (by simp[zjl,h1,h2,h3,h4])
attribute [simp] Tryz.ntmps63 Tryz.results63
theorem zzw (f:G.Frame)(hf:OkFrame f):Ct Tryz.prog 63 [st (zai f)] [] [] (bool (zfi f)) []:=by
 refine Ct.B Tryz.func63 mixed 9999 400 ?_;simp;refine CI.p (qv6 f) Tryz.call98 9999 ?_;simp;refine CI.p (qpy (zjl f) {zFrame with type:=f.type} (qsp hf)) Tryz.call97 9999 ?_ (ha:=by simp[zFrame]);simp[zFrame];first|exact fin0 (by simp[zfi,zFrame]) rfl|exact zaa (by simp[zfi,zFrame])
attribute [simp] Tryz.ntmps140 Tryz.results140
theorem qw5 (k_:Key):Ct Tryz.prog 140 [st (keyC k_)] [] [] (bool (okK k_)) []:=by
 refine Ct.B Tryz.func140 mixed 9999 400 ?_;simp;refine CI.p (zf5 k_.kind 3) Tryz.call61 9999 ?_;simp;refine sGI (fun h1=>?_) (fun h1=>?_)<;>simp only[h1]<;>simp
 ·refine CI.p (zfc k_.name) Tryz.call128 9999 ?_;simp;first|exact fin0 (by simp[okK,h1]) rfl|exact zaa (by simp[okK,h1])
 ·first|exact fin0 (by simp[okK,h1]) rfl|exact zaa (by simp[okK,h1])
attribute [simp] Tryz.ntmps100 Tryz.results100
theorem qsq (k_:Key):Ct Tryz.prog 100 [st (keyC k_)] [] [] (bool (!okK k_)) []:=by
 refine Ct.B Tryz.func100 mixed 9999 400 ?_;simp;refine CI.p (qw5 k_) Tryz.call140 9999 ?_;simp;first|exact fin0 (by simp) rfl|exact zaa (by simp)
attribute [simp] Tryz.ntmps101 Tryz.results101
theorem qk8 (m:G.Mark):Ct Tryz.prog 101 [st (zdx m)] [] [] (bool (!okK m.k)) []:=by
 refine Ct.B Tryz.func101 mixed 9999 400 ?_;simp;refine CI.p (qsq m.k) Tryz.call100 9999 ?_;simp;first|exact fin0 (by simp) rfl|exact zaa (by simp)
attribute [simp] Tryz.ntmps64 Tryz.results64
theorem qgy (f:G.Frame)(hf:OkFrame f):Ct Tryz.prog 64 [st (zai f)] [] [] (bool (zb9 f)) []:=by
 refine Ct.B Tryz.func64 mixed 9999 400 ?_;simp;refine CI.p (ztx f.gone (fnD 100) (fun k=>!okK k) (fun k _=>FnOk.of (qsq k) Tryz.call100 rfl rfl) hf.gone) Tryz.call99 9999 ?_;simp;rw[zms,Bool.not_not];refine sGI (fun h1=>?_) (fun h1=>?_)<;>simp only[h1]<;>simp
 ·refine CI.p (ztx f.held (fnD 100) (fun k=>!okK k) (fun k _=>FnOk.of (qsq k) Tryz.call100 rfl rfl) hf.held) Tryz.call99 9999 ?_;simp;rw[zms,Bool.not_not];refine sGI (fun h2=>?_) (fun h2=>?_)<;>simp only[h2]<;>simp
  ·refine CI.p (qbk f.have_ (fnD 101) (fun m=>!okK m.k) (fun m _=>FnOk.of (qk8 m) Tryz.call101 rfl rfl) hf.have_) Tryz.call95 9999 ?_;simp;rw[zms,Bool.not_not];first|exact fin0 (by simp[zb9,h1,h2]) rfl|exact zaa (by simp[zb9,h1,h2])
  ·first|exact fin0 (by simp[zb9,h1,h2]) rfl|exact zaa (by simp[zb9,h1,h2])
 ·first|exact fin0 (by simp[zb9,h1]) rfl|exact zaa (by simp[zb9,h1])
attribute [simp] Tryz.ntmps65 Tryz.results65
theorem qn5 (f:G.Frame)(hf:OkFrame f):Ct Tryz.prog 65 [st (zai f)] [] [] (int (zc3 f.adds)) []:=by
 refine Ct.B Tryz.func65 mixed 9999 400 ?_;simp;have hl:=hf.adds.1;refine LoopI.inv mixed rfl (ι:={k:Nat//k≤(f.adds).length∧(f.adds.take k).all (fun r=>decide (za8 r=0))=true}) (fun k=>[(7,lst (f.adds.map resC)),(8,int f.adds.length),(9,int k.1)]) (fun k=>[]) 64 (fun k=>(f.adds).length-k.1) ⟨0,by omega,by simp⟩ [] (by constructor<;>simp) ?_;rintro⟨k,hk1,hi⟩ B hB;refine CI.run 9999 400 rfl ?_;simp;refine sBI (fun h=>?_) (fun h=>?_)
 ·have hk:k<(f.adds).length:=by simpa using h
  obtain⟨x,hx,hr,hm,ht,hd⟩:=inL hk;have hw:=wr (k:=k) (by omega);simp only[h];simp[hr,hw];refine CI.p (zm0 x) Tryz.call94 9999 ?_;simp;refine sBI (fun h1=>?_) (fun h1=>?_)<;>simp only[h1]<;>simp<;>(try simp only[nT,nF,dT,dF]at h1)
  ·have e:=ztk hi hr h1;first|exact fin0 (by simp[e]) rfl|exact zaa (by simp[e])
  ·refine hB _ ⟨k+1,by omega,by simp[ht,hi,h1]⟩ [] ?_ (by simp;omega);constructor<;>simp[hw,ht,h1]
 ·have hkl:k=(f.adds).length:=by simp at h;omega
  subst hkl;simp only[h];simp[List.take_length,List.drop_length];rw[List.take_length]at hi;have e:=zrn hi;first|exact fin0 (by simp[e]) rfl|exact zaa (by simp[e])
attribute [simp] Tryz.ntmps103 Tryz.results103
theorem qri (f:G.Frame)(r:Res):Ct Tryz.prog 103 [st (resC r),.d (.pro (zai f))] [] [] (bool (!decide (r.kind=f.kind))) []:=by
 refine Ct.B Tryz.func103 mixed 9999 400 ?_;simp;first|exact fin0 (by simp) rfl|exact zaa (by simp)
attribute [simp] Tryz.ntmps104 Tryz.results104
theorem qrh (f:G.Frame)(k_:Key):Ct Tryz.prog 104 [st (keyC k_),.d (.pro (zai f))] [] [] (bool (!decide (k_.kind=f.kind))) []:=by
 refine Ct.B Tryz.func104 mixed 9999 400 ?_;simp;first|exact fin0 (by simp) rfl|exact zaa (by simp)
attribute [simp] Tryz.ntmps66 Tryz.results66
theorem qnx (f:G.Frame)(hf:OkFrame f):Ct Tryz.prog 66 [st (zai f)] [] [] (bool (zli f)) []:=by
 refine Ct.B Tryz.func66 mixed 1 400 ?_;simp;refine CI.s (tm:=[(1,.d (.pro (zai f)))]) (mm:=[]) (nx:=65) [] [64] (by constructor<;>simp) ?_;refine CI.run 9999 400 rfl ?_;simp;refine CI.p (qi3 f.adds (.fn (.func 103) [] [.pro (zai f)]) (fun r=>!decide (r.kind=f.kind)) (fun r _=>FnOk.clo (by exact qri f r) Tryz.call103 rfl rfl) hf.adds.len) Tryz.call102 9999 ?_;simp;rw[zms,Bool.not_not];refine sGI (fun h1=>?_) (fun h1=>?_)<;>simp only[h1]<;>simp
 ·refine CI.p (ztx f.gone (.fn (.func 104) [] [.pro (zai f)]) (fun k=>!decide (k.kind=f.kind)) (fun k _=>FnOk.clo (by exact qrh f k) Tryz.call104 rfl rfl) hf.gone) Tryz.call99 9999 ?_;simp;rw[zms,Bool.not_not];have e:zli f=f.gone.all fun k=>decide (k.kind=f.kind):=by rw[zli,h1,Bool.true_and]
  rw[←e];first|exact fin0 (by simp) rfl|exact zaa (by simp)
 ·skip
  have e:zli f=false:=by rw[zli,h1,Bool.false_and]
  first|exact fin0 (by simp[e]) rfl|exact zaa (by simp[e])
attribute [simp] Tryz.ntmps38 Tryz.results38
theorem zkf (f:G.Frame)(hf:OkFrame f):Ct Tryz.prog 38 [st (zai f)] [] [] (int (za0 f)) []:=by
 refine Ct.B Tryz.func38 mixed 9999 400 ?_;simp;refine CI.p (zf5 f.type 3) Tryz.call61 9999 ?_;simp;refine sGI (fun h1=>?_) (fun h1=>?_)<;>simp only[h1]<;>simp
 ·refine CI.p (zf5 f.kind 3) Tryz.call61 9999 ?_;simp;refine CI.p (zeh (rngB f.kind 3) 4) Tryz.call60 9999 ?_;simp;refine CI.p (qek f hf) Tryz.call62 9999 ?_;simp;refine CI.p (zeh (zcc f) 3) Tryz.call60 9999 ?_;simp;refine CI.p (zzw f hf) Tryz.call63 9999 ?_;simp;refine CI.p (zeh (zfi f) 2) Tryz.call60 9999 ?_;simp;refine CI.p (qgy f hf) Tryz.call64 9999 ?_;simp;refine CI.p (zeh (zb9 f) 5) Tryz.call60 9999 ?_;simp;refine CI.p (qn5 f hf) Tryz.call65 9999 ?_;simp;refine CI.p (qnx f hf) Tryz.call66 9999 ?_;simp;refine CI.p (zeh (zli f) 2) Tryz.call60 9999 ?_;simp;refine CI.g [1664] [] (qh9 [if rngB f.kind 3=true then 0 else 4,if zcc f=true then 0 else 3,if zfi f=true then 0 else 2,if zb9 f=true then 0 else 5,zc3 f.adds,if zli f=true then 0 else 2] (by simp)) Tryz.call59 9999 ?_;simp;have e:=zyv f;rw[h1,Bool.true_and]at e;rw[e];first|exact fin0 (by simp) rfl|exact zaa (by simp)
 ·skip
  refine CI.p (zeh false 4) Tryz.call60 9999 ?_;simp;refine CI.p (qek f hf) Tryz.call62 9999 ?_;simp;refine CI.p (zeh (zcc f) 3) Tryz.call60 9999 ?_;simp;refine CI.p (zzw f hf) Tryz.call63 9999 ?_;simp;refine CI.p (zeh (zfi f) 2) Tryz.call60 9999 ?_;simp;refine CI.p (qgy f hf) Tryz.call64 9999 ?_;simp;refine CI.p (zeh (zb9 f) 5) Tryz.call60 9999 ?_;simp;refine CI.p (qn5 f hf) Tryz.call65 9999 ?_;simp;refine CI.p (qnx f hf) Tryz.call66 9999 ?_;simp;refine CI.p (zeh (zli f) 2) Tryz.call60 9999 ?_;simp;refine CI.g [1664] [] (qh9 [4,if zcc f=true then 0 else 3,if zfi f=true then 0 else 2,if zb9 f=true then 0 else 5,zc3 f.adds,if zli f=true then 0 else 2] (by simp)) Tryz.call59 9999 ?_;simp;have e:za0 f=4:=by simp[za0,h1]
  first|exact fin0 (by simp[e]) rfl|exact zaa (by simp[e])
end Go.Proofs.YtekckhepcdndcaaGreatDoor
namespace Go.Proofs.YtekckhepcdndcaaGreatDoor
open Go.AI Go.G
set_option maxRecDepth 20000
attribute [simp] Tryz.ntmps49 Tryz.results49
theorem zb8 (e m:Int):Ct Tryz.prog 49 [int e,int m] [] [] (st (zfj (zci e m))) []:=by
 refine Ct.B Tryz.func49 mixed 9999 400 ?_;simp;refine CI.p (zr9 m) Tryz.call84 9999 ?_;simp;have h:=qid e;first|exact fin0 (by simp[zci,h,zView,zFrame]) rfl|exact zaa (by simp[zci,h,zView,zFrame])
attribute [simp] Tryz.ntmps216 Tryz.results216
theorem zxr (f:G.Frame)(hf:OkFrame f):Ct Tryz.prog 216 [st (zai f)] [] [] (bool (decide (za0 f=0))) []:=by
 refine Ct.B Tryz.func216 mixed 9999 400 ?_;simp;refine CI.p (zkf f hf) Tryz.call38 9999 ?_;simp;first|exact fin0 (by simp) rfl|exact zaa (by simp)
attribute [simp] Tryz.ntmps168 Tryz.results168
theorem qtr (v:View)(hv:v.held.length≤9223372036854775807)(hl:v.have_.length≤1000000):Ct Tryz.prog 168 [st (zt8 v)] [] [] (bool (zuo v)) []:=by
 refine Ct.B Tryz.func168 mixed 9999 400 ?_;simp;refine CI.p (qg8 v.have_ hl) Tryz.call204 9999 ?_;simp;refine CI.p (zxr (zdt v) (qht v (by omega))) Tryz.call216 9999 ?_ (ha:=by simp[zdt]);simp[zdt];refine sGI (fun h1=>?_) (fun h1=>?_)<;>simp only[h1]<;>simp
 ·refine CI.p (zxr (zez v) (zwm hv)) Tryz.call216 9999 ?_ (ha:=by simp[zez]);simp[zez];first|exact fin0 (by simp[zuo,h1,zdt,zez]) rfl|exact zaa (by simp[zuo,h1,zdt,zez])
 ·first|exact fin0 (by simp[zuo,h1,zdt]) rfl|exact zaa (by simp[zuo,h1,zdt])
attribute [simp] Tryz.ntmps169 Tryz.results169
theorem qod (s:Sess)(hs:OkFrame s.v.push):Ct Tryz.prog 169 [st (zfj s)] [] [] (bool (zbj s)) []:=by
 refine Ct.B Tryz.func169 mixed 9999 400 ?_;simp;refine sGI (fun h1=>?_) (fun h1=>?_)<;>simp only[h1]<;>simp
 ·have h1':s.greeted=false:=by simpa using h1
  first|exact fin0 (by simp[zbj,h1']) rfl|exact zaa (by simp[zbj,h1'])
 have h1':s.greeted=true:=by simpa using h1
 refine CI.p (zxr s.v.push hs) Tryz.call216 9999 ?_;simp;refine sGI (fun h2=>?_) (fun h2=>?_)<;>simp only[h2]<;>simp
 ·have h2':¬za0 s.v.push=0:=by simpa using h2
  first|exact fin0 (by simp[zbj,h2']) rfl|exact zaa (by simp[zbj,h2'])
 have h2':za0 s.v.push=0:=by simpa using h2
 refine sGI (fun h3=>?_) (fun h3=>?_)<;>simp only[h3]<;>simp
 ·have h3':¬s.v.push.type=1:=by simpa using h3
  first|exact fin0 (by simp[zbj,h3']) rfl|exact zaa (by simp[zbj,h3'])
 have h3':s.v.push.type=1:=by simpa using h3
 refine sBI (fun h4=>?_) (fun h4=>?_)<;>simp only[h4]<;>simp
 ·have h4':¬s.v.push.epoch=s.epoch:=by simpa using h4
  first|exact fin0 (by simp[zbj,h4']) rfl|exact zaa (by simp[zbj,h4'])
 have h4':s.v.push.epoch=s.epoch:=by simpa using h4
 rcases zu1 h2' with hk|hk|hk|hk
 ·simp[hk];refine sGI (fun h5=>?_) (fun h5=>?_)<;>simp only[h5]<;>simp[hk]
  ·first|exact fin0 (by simp[zbj,h1',h2',h3',h4',hk,h5,Nonce.Ou.open',Nonce.Ou.last]) rfl|exact zaa (by simp[zbj,h1',h2',h3',h4',hk,h5,Nonce.Ou.open',Nonce.Ou.last])
  ·first|exact fin0 (by simp[zbj,h1',h2',h3',h4',hk,h5,Nonce.Ou.open',Nonce.Ou.last]) rfl|exact zaa (by simp[zbj,h1',h2',h3',h4',hk,h5,Nonce.Ou.open',Nonce.Ou.last])
 ·simp[hk];refine sGI (fun h5=>?_) (fun h5=>?_)<;>simp only[h5]<;>simp[hk]
  ·first|exact fin0 (by simp[zbj,h1',h2',h3',h4',hk,h5,Nonce.Ou.open',Nonce.Ou.last]) rfl|exact zaa (by simp[zbj,h1',h2',h3',h4',hk,h5,Nonce.Ou.open',Nonce.Ou.last])
  ·first|exact fin0 (by simp[zbj,h1',h2',h3',h4',hk,h5,Nonce.Ou.open',Nonce.Ou.last]) rfl|exact zaa (by simp[zbj,h1',h2',h3',h4',hk,h5,Nonce.Ou.open',Nonce.Ou.last])
 ·simp[hk];refine sGI (fun h5=>?_) (fun h5=>?_)<;>simp only[h5]<;>simp[hk]
  ·first|exact fin0 (by simp[zbj,h1',h2',h3',h4',hk,h5,Nonce.Ou.open',Nonce.Ou.last]) rfl|exact zaa (by simp[zbj,h1',h2',h3',h4',hk,h5,Nonce.Ou.open',Nonce.Ou.last])
  ·first|exact fin0 (by simp[zbj,h1',h2',h3',h4',hk,h5,Nonce.Ou.open',Nonce.Ou.last]) rfl|exact zaa (by simp[zbj,h1',h2',h3',h4',hk,h5,Nonce.Ou.open',Nonce.Ou.last])
 ·simp[hk];refine sGI (fun h5=>?_) (fun h5=>?_)<;>simp only[h5]<;>simp[hk]
  ·first|exact fin0 (by simp[zbj,h1',h2',h3',h4',hk,h5,Nonce.Ou.open',Nonce.Ou.last]) rfl|exact zaa (by simp[zbj,h1',h2',h3',h4',hk,h5,Nonce.Ou.open',Nonce.Ou.last])
  ·first|exact fin0 (by simp[zbj,h1',h2',h3',h4',hk,h5,Nonce.Ou.open',Nonce.Ou.last]) rfl|exact zaa (by simp[zbj,h1',h2',h3',h4',hk,h5,Nonce.Ou.open',Nonce.Ou.last])
attribute [simp] Tryz.ntmps125 Tryz.results125
theorem qpw (s:Sess)(hd:s.v.held.length≤9223372036854775807)(hs:OkFrame s.v.push)(hl:s.v.have_.length≤1000000):Ct Tryz.prog 125 [st (zfj s)] [] [] (bool (zbt s)) []:=by
 refine Ct.B Tryz.func125 mixed 9999 400 ?_;simp;refine sGI (fun h1=>?_) (fun h1=>?_)<;>simp only[h1]<;>simp
 ·skip
  refine sGI (fun h2=>?_) (fun h2=>?_)<;>simp only[h2]<;>simp
  ·skip
   refine sGI (fun h3=>?_) (fun h3=>?_)<;>simp only[h3]<;>simp
   ·skip
    refine sGI (fun h4=>?_) (fun h4=>?_)<;>simp only[h4]<;>simp
    ·skip
     refine sGI (fun h5=>?_) (fun h5=>?_)<;>simp only[h5]<;>simp
     ·skip
      refine CI.p (qn1 s.out) Tryz.call167 9999 ?_;simp;refine sGI (fun h6=>?_) (fun h6=>?_)<;>simp only[h6]<;>simp
      ·skip
       refine CI.p (qtr s.v hd hl) Tryz.call168 9999 ?_;simp;refine sGI (fun h7=>?_) (fun h7=>?_)<;>simp only[h7]<;>simp
       ·skip
        refine sGI (fun h8=>?_) (fun h8=>?_)<;>simp only[h8]<;>simp
        ·first|exact fin0 (by simp[zbt,zds,rngB,h1,h2,h3,h4,h5,h6,h7,h8]) rfl|exact zaa (by simp[zbt,zds,rngB,h1,h2,h3,h4,h5,h6,h7,h8])
        ·refine CI.p (qod s hs) Tryz.call169 9999 ?_;simp;first|exact fin0 (by simp[zbt,zds,rngB,h1,h2,h3,h4,h5,h6,h7,h8]) rfl|exact zaa (by simp[zbt,zds,rngB,h1,h2,h3,h4,h5,h6,h7,h8])
       ·first|exact fin0 (by simp[zbt,h7]) rfl|exact zaa (by simp[zbt,h7])
      ·first|exact fin0 (by simp[zbt,h6]) rfl|exact zaa (by simp[zbt,h6])
     ·first|exact fin0 (by simp[zbt,zds,rngB,h5]) rfl|exact zaa (by simp[zbt,zds,rngB,h5])
    ·first|exact fin0 (by simp[zbt,zds,rngB,h4]) rfl|exact zaa (by simp[zbt,zds,rngB,h4])
   ·first|exact fin0 (by simp[zbt,zds,rngB,h3]) rfl|exact zaa (by simp[zbt,zds,rngB,h3])
  ·first|exact fin0 (by simp[zbt,zds,rngB,h2]) rfl|exact zaa (by simp[zbt,zds,rngB,h2])
 ·first|exact fin0 (by simp[zbt,zds,rngB,h1]) rfl|exact zaa (by simp[zbt,zds,rngB,h1])
attribute [simp] Tryz.ntmps85 Tryz.results85
theorem zzq (s:Sess)(hd:s.v.held.length≤9223372036854775807)(hs:OkFrame s.v.push)(hl:s.v.have_.length≤1000000):Ct Tryz.prog 85 [st (zfj s)] [] [] (st (zfj (zbg s))) []:=by
 refine Ct.B Tryz.func85 mixed 9999 400 ?_;simp;refine CI.p (qpw s hd hs hl) Tryz.call125 9999 ?_;simp;refine sBI (fun h1=>?_) (fun h1=>?_)<;>simp only[h1]<;>simp
 ·have h1':zbt s=false:=by simpa using h1
  refine CI.p (zb8 s.epoch s.out.m) Tryz.call49 9999 ?_;simp;first|exact fin0 (by simp[zbg,h1']) rfl|exact zaa (by simp[zbg,h1'])
 ·have h1':zbt s=true:=by simpa using h1
  first|exact fin0 (by simp[zbg,h1']) rfl|exact zaa (by simp[zbg,h1'])
theorem zsb (s:Sess)(hs:OkSess s)(hl:s.v.have_.length≤1000000):Ct Tryz.prog 85 [st (zfj s)] [] [] (st (zfj (zbg s))) []:=zzq s hs.v.held hs.v.push hl
attribute [simp] Tryz.ntmps200 Tryz.results200
theorem qrr (s:Sess)(p:Store)(f:G.Frame)(hp:OkStore p)(hl:f.have_.length≤1000):Ct Tryz.prog 200 [st (zfj s),st (zbf p),st (zai f)] [] [] (.tup [st (zfj (zgc s p f).1),int (zgc s p f).2]) []:=by
 refine Ct.B Tryz.func200 mixed 9999 400 ?_;simp;refine sBI (fun h1=>?_) (fun h1=>?_)<;>simp only[h1]<;>simp
 ·first|exact fin0 (by simp[zgc,h1]) rfl|exact zaa (by simp[zgc,h1])
 refine CI.p (qre p f.have_ hp hl) Tryz.call260 9999 ?_;simp;have hk:=zpk p f.have_;refine sBI (fun h2=>?_) (fun h2=>?_)<;>simp only[h2]<;>simp<;>(try simp only[nT,nF,dT,dF]at h2)
 ·refine CI.cc [] (qaq (zfs p f.have_) (by omega)) Tryz.call121 9999 ?_;simp;first|exact fin0 (by simp[zgc,zlo,h1,h2]) rfl|exact zaa (by simp[zgc,zlo,h1,h2])
 ·first|exact fin0 (by simp[zgc,zlo,h1,h2]) rfl|exact zaa (by simp[zgc,zlo,h1,h2])
attribute [simp] Tryz.ntmps201 Tryz.results201
theorem qt0 (s:Sess)(p:Store)(f:G.Frame):Ct Tryz.prog 201 [st (zfj s),st (zbf p),st (zai f)] [] [] (.tup [st (zfj s),int 2]) []:=by
 refine Ct.B Tryz.func201 mixed 9999 400 ?_;simp;first|exact fin0 (by simp) rfl|exact zaa (by simp)
attribute [simp] Tryz.ntmps203 Tryz.results203
theorem qr1 (s:Sess)(p:Store)(f:G.Frame):Ct Tryz.prog 203 [st (zfj s),st (zbf p),st (zai f)] [] [] (.tup [st (zfj (zjs s f).1),int (zjs s f).2]) []:=by
 refine Ct.B Tryz.func203 mixed 9999 400 ?_;simp;refine CI.p (zyz s.v f.turn f.held) Tryz.call263 9999 ?_;simp;first|exact fin0 (by simp[zjs]) rfl|exact zaa (by simp[zjs])
attribute [simp] Tryz.ntmps202 Tryz.results202
theorem qxj (s:Sess)(p:Store)(f:G.Frame)(hl:s.v.open_=true→s.v.have_.length+s.v.push.adds.length≤1000000∧s.v.push.gone.length≤9223372036854775807)(hp:p.hist.length≤1000000):Ct Tryz.prog 202 [st (zfj s),st (zbf p),st (zai f)] [] [] (.tup [st (zfj (ackH s p f).1),int (ackH s p f).2]) []:=by
 refine Ct.B Tryz.func202 mixed 9999 400 ?_;simp;refine CI.p (qq1 s.out f.kind f.nonce) Tryz.call261 9999 ?_;simp;refine sBI (fun h1=>?_) (fun h1=>?_)<;>simp only[h1]<;>simp<;>(try simp only[nT,nF,dT,dF]at h1)
 ·first|exact fin0 (by simp[ackH,h1]) rfl|exact zaa (by simp[ackH,h1])
 refine sBI (fun h2=>?_) (fun h2=>?_)<;>simp only[h2]<;>simp
 ·have h2':s.v.open_=false:=by simpa using h2
  first|exact fin0 (by simp[ackH,h1,h2']) rfl|exact zaa (by simp[ackH,h1,h2'])
 have h2':s.v.open_=true:=by simpa using h2
 refine CI.p (qdr s.v f (hl h2').1 (hl h2').2) Tryz.call262 9999 ?_;simp;refine sBI (fun h3=>?_) (fun h3=>?_)<;>simp only[h3]<;>simp
 ·first|exact fin0 (by simp[ackH,h1,h2',h3]) rfl|exact zaa (by simp[ackH,h1,h2',h3])
 refine sBI (fun h4=>?_) (fun h4=>?_)<;>simp only[h4]<;>simp<;>(try simp only[nT,nF,dT,dF]at h4)
 ·have h4':64<(ansV s.v f).have_.length:=by omega
  first|exact fin0 (by simp[ackH,h1,h2',h3,h4']) rfl|exact zaa (by simp[ackH,h1,h2',h3,h4'])
 have h4':¬64<(ansV s.v f).have_.length:=by omega
 refine CI.p (zsu p hp) Tryz.call24 9999 ?_;simp;first|exact fin0 (by simp[ackH,h1,h2',h3,h4',nowI]) rfl|exact zaa (by simp[ackH,h1,h2',h3,h4',nowI])
attribute [simp] Tryz.ntmps153 Tryz.results153
theorem qsi :Ct Tryz.prog 153 [int 0] [] [] (.d (fnD 200)) []:=by
 refine Ct.B Tryz.func153 mixed 9999 400 ?_;simp;first|exact fin0 (by simp) rfl|exact zaa (by simp)
theorem qsh :Ct Tryz.prog 153 [int 1] [] [] (.d (fnD 201)) []:=by
 refine Ct.B Tryz.func153 mixed 9999 400 ?_;simp;first|exact fin0 (by simp) rfl|exact zaa (by simp)
theorem qsg :Ct Tryz.prog 153 [int 2] [] [] (.d (fnD 202)) []:=by
 refine Ct.B Tryz.func153 mixed 9999 400 ?_;simp;first|exact fin0 (by simp) rfl|exact zaa (by simp)
theorem qsf :Ct Tryz.prog 153 [int 3] [] [] (.d (fnD 203)) []:=by
 refine Ct.B Tryz.func153 mixed 9999 400 ?_;simp;first|exact fin0 (by simp) rfl|exact zaa (by simp)
attribute [simp] Tryz.ntmps112 Tryz.results112
theorem qhx (s:Sess)(p:Store)(f:G.Frame)(hd:s.v.held.length≤9223372036854775807)(hs:OkFrame s.v.push)(hl:s.v.have_.length≤1000000)(hf:OkFrame f)(hp:OkStore p)(hpl:p.hist.length≤1000000):Ct Tryz.prog 112 [st (zfj s),st (zbf p),st (zai f)] [] [] (.tup [st (zfj (handle s p f).1),int (handle s p f).2]) []:=by
 refine Ct.B Tryz.func112 mixed 9999 400 ?_;simp;refine CI.p (zzq s hd hs hl) Tryz.call85 9999 ?_;simp;have hq0:=zoo s;have hh:handle s p f=zck (zbg s) p f:=rfl;rw[hh];clear hh;generalize zbg s=q at hq0⊢;have S:=saneS_iff.1 hq0;refine CI.p (zkf f hf) Tryz.call38 9999 ?_;simp;refine sBI (fun h1=>?_) (fun h1=>?_)<;>simp only[h1]<;>simp<;>(try simp only[nT,nF,dT,dF]at h1)
 ·first|exact fin0 (by simp[zck,h1]) rfl|exact zaa (by simp[zck,h1])
 refine sBI (fun h2=>?_) (fun h2=>?_)<;>simp only[h2]<;>simp<;>(try simp only[nT,nF,dT,dF]at h2)
 ·first|exact fin0 (by simp[zck,h1,h2]) rfl|exact zaa (by simp[zck,h1,h2])
 have F:=frameE_zero.1 h1;have L:=zcm F.small;have hS:=S.hl;rcases qf4 h1 with h3|h3|h3|h3
 ·refine CI.p qsi Tryz.call153 9999 ?_ (ha:=by simp[h3]);simp[h3];refine CI.ff (FnOk.of (qrr q p f hp (by omega)) Tryz.call200 rfl rfl) rfl rfl rfl 9999 ?_ (ha:=by simp[h3]);simp[h3];refine⟨by decide+kernel,?_⟩;first|exact fin0 (by simp[zck,h1,h2,h3]) rfl|exact zaa (by simp[zck,h1,h2,h3])
 ·refine CI.p qsh Tryz.call153 9999 ?_ (ha:=by simp[h3]);simp[h3];refine CI.ff (FnOk.of (qt0 q p f) Tryz.call201 rfl rfl) rfl rfl rfl 9999 ?_ (ha:=by simp[h3]);simp[h3];refine⟨by decide+kernel,?_⟩;first|exact fin0 (by simp[zck,h1,h2,h3]) rfl|exact zaa (by simp[zck,h1,h2,h3])
 ·refine CI.p qsg Tryz.call153 9999 ?_ (ha:=by simp[h3]);simp[h3];refine CI.ff (FnOk.of (qxj q p f (qub S) hpl) Tryz.call202 rfl rfl) rfl rfl rfl 9999 ?_ (ha:=by simp[h3]);simp[h3];refine⟨by decide+kernel,?_⟩;first|exact fin0 (by simp[zck,h1,h2,h3]) rfl|exact zaa (by simp[zck,h1,h2,h3])
 ·refine CI.p qsf Tryz.call153 9999 ?_ (ha:=by simp[h3]);simp[h3];refine CI.ff (FnOk.of (qr1 q p f) Tryz.call203 rfl rfl) rfl rfl rfl 9999 ?_ (ha:=by simp[h3]);simp[h3];refine⟨by decide+kernel,?_⟩;first|exact fin0 (by simp[zck,h1,h2,h3]) rfl|exact zaa (by simp[zck,h1,h2,h3])
end Go.Proofs.YtekckhepcdndcaaGreatDoor
