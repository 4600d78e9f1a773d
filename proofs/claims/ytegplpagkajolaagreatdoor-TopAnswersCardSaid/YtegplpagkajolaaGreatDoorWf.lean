/-
  LAYERS 9, 10, 13, 20: the walks of policies' exported functions, of numbers of pushes, of frames, of sessions.
-/
import Derived.Test.YtegplpagkajolaaGreatDoorWe
import Derived.Test.YtegplpagkajolaaGreatDoorAs
import Derived.Test.YtegplpagkajolaaGreatDoorPs
import Derived.Test.YtegplpagkajolaaGreatDoorFd
import Derived.Test.YtegplpagkajolaaGreatDoorWa
import Derived.Test.YtegplpagkajolaaGreatDoorFc
set_option linter.unusedSimpArgs false
set_option linter.unusedVariables false
set_option maxRecDepth 100000
set_option maxHeartbeats 8000000
section
open Go.RowKit
namespace Go.Proofs.YtegplpagkajolaaGreatDoor
open Go.AI Go.G Tryz
attribute [simp] ntmps19 results19 ntmps111 results111
abbrev A5 :Value:=.iface 433 (.agg #[.pointer (some ⟨4,252,none⟩)])
def eY :(Nat->Prop)->World->Prop:=fun I w=>I 1/\w.cell? ⟨1,0,none⟩=some A5
theorem lZ :Ap eY:=fun I I' w w' h h1 h2=>⟨h2 1 h.1,(cell_of_heap (h1 1 h.1)).trans h.2⟩
set_option maxHeartbeats 4000000 in
theorem Wq (b:Nat)(e:Int)(w:World)(hg:w.cell? ⟨1,0,none⟩=some A5)(hc:w.cell? ⟨b,0,none⟩=some (.int .i64 e)):
  Calls prog 163 #[.iface 300 (.pointer (some ⟨b,0,none⟩))] w fun ev w'=>ev=.returned (.int .i64 e)/\Below w.heap.size w w'/\w.drawn<=w'.drawn:=by
 have hlt:1<w.heap.size:=by
  rcases vX 1 w.heap.size with h|h
  ·exact h
  ·simp[World.cell?,OB h]at hg
 have hbl:b<w.heap.size:=by
  rcases vX b w.heap.size with h|h
  ·exact h
  ·simp[World.cell?,OB h]at hc
 have hgA:(w.alloc (.cells #[.pointer none] 300)).cell? ⟨1,0,none⟩=some A5:=by
  rw[HH _ _ ⟨1,0,none⟩ hlt];exact hg
 have htA:(w.alloc (.cells #[.pointer none] 300)).cell? ⟨w.heap.size,0,none⟩=some (.pointer none):=by simp
 have hfA:(w.alloc (.cells #[.pointer none] 300)).frozen? ⟨w.heap.size,0,none⟩=false:=by simp
 have hAs:Calls prog 210 #[.iface 300 (.pointer (some ⟨b,0,none⟩)),.iface 302 (.pointer (some ⟨w.heap.size,0,none⟩))] (w.alloc (.cells #[.pointer none] 300)) fun ev w'=>
   ev=.returned (.bool true)/\w'.cell? ⟨w.heap.size,0,none⟩=some (.pointer (some ⟨b,0,none⟩))/\w'.cell? ⟨b,0,none⟩=some (.int .i64 e)/\Below w.heap.size w w'/\w.drawn<=w'.drawn:=by
  refine(zj3 _ _ (.pointer none) _ hgA htA hfA).mono ?_;rintro ev w' ⟨rfl,rfl⟩;have hB:Below w.heap.size w (((((w.alloc (.cells #[.pointer none] 300)).alloc (.cells #[.pointer (some ⟨w.heap.size,0,none⟩)] 302)).alloc (.cells #[.pointer (some ⟨4,302,none⟩),.pointer (some ⟨(w.alloc (.cells #[.pointer none] 300)).heap.size,0,none⟩),.int .u64 150] 357)).alloc (.cells #[.pointer (some ⟨4,302,none⟩),.pointer (some ⟨(w.alloc (.cells #[.pointer none] 300)).heap.size,0,none⟩),.int .u64 150] 357)).alloc (.cells #[.pointer (some ⟨b,0,none⟩)] 300)):=
   (((((Below.refl _ w).alloc (cM _) _).alloc (by simp) _).alloc (by simp;omega) _).alloc (by simp;omega) _).alloc (by simp;omega) _
  refine⟨rfl,?_,?_,hB.setCell (p:=⟨w.heap.size,0,none⟩) (by simp) _,cM _⟩
  ·refine(wX (S8 (t:=300) (v:=.pointer none) ?_ _)).1;refine(Below.heap_alloc _ _ _ (by simp;omega)).trans ?_;refine(Below.heap_alloc _ _ _ (by simp;omega)).trans ?_;refine(Below.heap_alloc _ _ _ (by simp;omega)).trans ?_;refine(Below.heap_alloc _ _ _ (by simp)).trans ?_;exact World.alloc_heap_new w _
  ·have h1:=hB.block b hbl;refine(cell_of_heap (a:=⟨b,0,none⟩) ((yQ _ (show b≠w.heap.size by omega)).trans h1)).trans hc
 go_enter func163,ntmps163
 go_wp2_with (go_at_call 210;refine hAs.mono ?_;rintro ev w' ⟨rfl,c1,c2,c3,c4⟩)
 go_ret
 exact⟨rfl,c3,c4⟩
theorem Wp (w:World):Calls prog 163 #[.nilIface] w fun ev w'=>ev=.returned (.int .i64 0)/\Below w.heap.size w w'/\w.drawn<=w'.drawn:=by
 go_enter func163,ntmps163
 go_wp2_with (go_at_call 210;refine(zj2 _ _).mono ?_;rintro ev w' ⟨rfl,rfl⟩)
 go_ret
 exact⟨rfl,(Below.refl _ w).alloc (cM _) _,cM _⟩
theorem Wo :cO eY prog 163 [.d (.v .nilIface)] [] [] (int 0) []:=by
 refine cO.Ka fun σ I w vs hG hI hl ha hm=>?_
 match vs,hl with
 |[v],_=>
  have h0:=ha 0 _ v rfl rfl;obtain rfl:=fM h0;exact Wp w
theorem Wn (e:Int)(cs:List AV)(T:TypeId):cO eY prog 163 [.gK 300 (.ptr 0 0)] [(0,.cells (int e::cs) T)] [] (int e) []:=by
 refine cO.Ka fun σ I w vs hG hI hl ha hm=>?_
 match vs,hl with
 |[v],_=>
  have h0:=ha 0 _ v rfl rfl;obtain⟨y,hy,hb,hn⟩:=hm.bQ 0 _ rfl;cases h0 with
  |gK h0=>cases h0 with
   | @ptr _ _ n h0=>
     rw[h0]at hy;cases hy;cases hb with
     | @cells _ _ _ arr c1 c2 c3=>
       refine Wq n e w hG.2 ?_;have hlt:0<arr.size:=by rw[c2];simp
       have e0:arr[0]? =some arr[0]:=tV hlt;have:=c3 0 _ arr[0] rfl e0;have e1:arr[0]=.int .i64 e:=by
        generalize arr[0]=z at this;exact fM this
       simp[World.cell?,c1,e0,e1]
theorem Cu (s:aT):¬(gZ s).bV=[]:=by
 unfold gZ;split
 ·simp[iA]
 ·rename_i h;simpa using h
theorem Cv {s:aT}(hl:s.bV.length<=1000000):(gZ s).bV.length<=1000000:=by
 unfold gZ;split
 ·simp[iA]
 ·exact hl
theorem AX (s:aT)(hl:s.bV.length<=1000000):Ct prog 19 [st (jT s)] [] [] (.bI [int ((gZ s).bV.length-1),aC ((fW (gZ s)).map aK)]) []:=by
 refine Ct.B func19 ?_;simp;refine CI.p (U0 s) ?_;simp;have h1:=Cu s;have h2:=Cv hl;have h0:0<(gZ s).bV.length:=xI.2 h1;have hw:=wrap_i64 (n:=((gZ s).bV.length:Int)-1) (by omega) (by omega);refine CI.p (X6 (gZ s) h1 h2) ?_;simp;refine⟨by decide+kernel,?_⟩;exact aB (by simp[hw]) rfl
theorem zkV (s:aT)(aD:List aA)(gone:List Key)(hl:s.bV.length<=1000000)(hok:dK (fW (gZ s)))(hn:(fW (gZ s)).length+aD.length<=1000000)(hg:gone.length<=9223372036854775807):cO eY prog 111 [st (jT s),aC (aD.map aK),aC (gone.map bP)] [] [] (.bI [st (jT (tC (gZ s) aD gone)),int (rF (gZ s) aD gone)]) []:=by
 refine cO.B lZ func111 ?_;simp;refine CI.p (U0 s) ?_;simp;have h1:=Cu s;have h2:=Cv hl;have hp:=zcT (gZ s) aD gone h1 h2 hok hn hg;by_cases he:rF (gZ s) aD gone=0
 ·simp only[vM,vL,aU he]at hp;refine CI.p hp ?_;simp;refine CI.j [] Wo ?_;simp;refine⟨by decide+kernel,?_⟩;exact aB (by simp[he]) rfl
 ·simp only[vM,vL,aH he]at hp;refine CI.cc [] hp ?_;simp;refine CI.j [512] (Wn (rF (gZ s) aD gone) [int (gZ s).bV.length] 304) ?_;simp;refine⟨by decide+kernel,?_⟩;exact aB (by simp[he]) rfl
end Go.Proofs.YtegplpagkajolaaGreatDoor
end
namespace Go.G
open Go.AI
@[simp] theorem diffA_nil (a:List aA):mN a []=[]:=rfl
@[simp] theorem diffG_nil (b:List aA):oG [] b=[]:=rfl
@[simp] theorem stampR_nil (now:List aA)(v:Int):l9 now [] v=[]:=rfl
end Go.G
namespace Go.Proofs.YtegplpagkajolaaGreatDoor
open Go.AI Go.G Tryz

attribute [simp] ntmps110 results110 ntmps74 results74 ntmps223 results223 ntmps130 results130 ntmps203 results203 ntmps281 results281 ntmps212 results212 ntmps310 results310
abbrev GB (i:aE.Nn):List D:=[iD i.l0,iD i.l1,iD i.l2,iD i.l3,iD i.m]
theorem Sl (n:Int):Ct prog 110 [int n] [] [] (int (aE.j3 n)) []:=by
 refine Ct.B func110 ?_;simp;have e:=zi7 n;exact aB (by simp[e]) rfl
theorem OY (n:Int):Ct prog 74 [int n] [] [] (.bI [st (CN (aE.DZ n)),st (GB (aE.qF n))]) []:=by
 refine Ct.B func74 ?_;simp;refine CI.p (Sl n) ?_;simp;exact aB (by simp[aE.DZ,aE.qF]) rfl
theorem X9 (k_:Int):Ct prog 223 [int k_] [] [] (bool (aE.gH k_)) []:=by
 refine Ct.B func223 ?_;simp;refine bX (fun h1=>?_) (fun h1=>?_)<;>simp only[h1]<;>simp
 ·exact aB (by simp[aE.gH,h1]) rfl
 ·exact aB (by simp[aE.gH,h1]) rfl
theorem VG (i:aE.Nn):Ct prog 130 [st (GB i)] [] [] (bool (aE.tZ i)) []:=by
 refine Ct.B func130 ?_;simp;refine aQ.un ?_;simp;refine⟨by decide+kernel,?_⟩;refine aQ.un ?_;simp;refine⟨by decide+kernel,?_⟩;refine aQ.un ?_;simp;refine⟨by decide+kernel,?_⟩;refine aQ.un ?_;simp;refine⟨by decide+kernel,?_⟩;refine aQ.un ?_;simp;refine bX (fun h=>?_) (fun h=>?_)<;>simp only[h]<;>simp
 ·refine CI.p (Sl i.m) ?_;simp;have e:=Zr i h;exact cK (by simp[e])
 ·have e:=Zs i h;exact cK (by simp[e])
theorem Oy (o:aE.Ou):Ct prog 203 [st (CN o)] [] [] (bool (aE.kQ o)) []:=by
 refine Ct.B func203 ?_;simp;obtain⟨a,b,c,d,x,y,z,t,m⟩:=o;refine aQ.un ?_;simp
 repeat' first
  | (refine bX (fun h=>?_) (fun h=>?_)<;>simp only[h]<;>simp[h])
  | (refine aJ (fun h=>?_) (fun h=>?_)<;>simp only[h]<;>simp[h])
  | (refine⟨(show nY _ _ from by decide+kernel),?_⟩)
  |fail
 all_goals(first| (exact aB (by simp[aE.kQ, *]) rfl)| (refine⟨by decide+kernel,?_⟩;exact aB (by simp[aE.kQ, *]) rfl)|skip)
 all_goals
  refine aQ.un ?_;simp
 repeat' first
  | (refine bX (fun h=>?_) (fun h=>?_)<;>simp only[h]<;>simp[h])
  | (refine aJ (fun h=>?_) (fun h=>?_)<;>simp only[h]<;>simp[h])
  | (refine⟨(show nY _ _ from by decide+kernel),?_⟩)
  |fail
 all_goals(first| (exact aB (by simp[aE.kQ, *]) rfl)| (refine⟨by decide+kernel,?_⟩;exact aB (by simp[aE.kQ, *]) rfl)|skip)
 all_goals
  refine aQ.un ?_;simp
 repeat' first
  | (refine bX (fun h=>?_) (fun h=>?_)<;>simp only[h]<;>simp[h])
  | (refine aJ (fun h=>?_) (fun h=>?_)<;>simp only[h]<;>simp[h])
  | (refine⟨(show nY _ _ from by decide+kernel),?_⟩)
  |fail
 all_goals(first| (exact aB (by simp[aE.kQ, *]) rfl)| (refine⟨by decide+kernel,?_⟩;exact aB (by simp[aE.kQ, *]) rfl)|skip)
 all_goals
  refine aQ.un ?_;simp
 repeat' first
  | (refine bX (fun h=>?_) (fun h=>?_)<;>simp only[h]<;>simp[h])
  | (refine aJ (fun h=>?_) (fun h=>?_)<;>simp only[h]<;>simp[h])
  | (refine⟨(show nY _ _ from by decide+kernel),?_⟩)
  |fail
 all_goals(first| (exact aB (by simp[aE.kQ, *]) rfl)| (refine⟨by decide+kernel,?_⟩;exact aB (by simp[aE.kQ, *]) rfl)|skip)
 all_goals
  refine aQ.un ?_;simp
 all_goals
  refine CI.p (VG ⟨a,b,c,d,m⟩) ?_;simp
 all_goals(first| (exact aB (by simp[aE.kQ,aE.Ou.qC, *]) rfl)| (refine⟨by decide+kernel,?_⟩;exact aB (by simp[aE.kQ,aE.Ou.qC, *]) rfl))
theorem Iw (o:aE.Ou):Ct prog 281 [st (CN o)] [] [] (st (CN (aE.zG o))) []:=by
 refine Ct.B func281 ?_;simp;refine CI.p (Oy o) ?_;simp;refine aJ (fun h1=>?_) (fun h1=>?_)<;>simp only[h1]<;>simp
 ·exact aB (by simp[aE.zG,h1]) rfl
 ·refine CI.p (OY o.m) ?_;simp;exact aB (by simp[aE.zG,h1]) rfl
theorem Kn (o:aE.Ou)(k_:Int):Ct prog 212 [st (CN o),int k_] [] [] (.bI [st (CN (aE.push o k_).1),int (aE.push o k_).2.1,int (aE.push o k_).2.2]) []:=by
 refine Ct.B func212 ?_;simp;refine CI.p (Iw o) ?_;simp;simp only[aE.push];have hb:=aE.WV o;generalize aE.zG o=q at hb⊢;obtain⟨A,B,C,D,X,Y,Z,T,M⟩:=q;simp only[aE.Ou.ok]at hb;have wA:=wrap_i64 (n:=A+1) (by omega) (by omega);have wB:=wrap_i64 (n:=B+1) (by omega) (by omega);have wC:=wrap_i64 (n:=C+1) (by omega) (by omega);have wD:=wrap_i64 (n:=D+1) (by omega) (by omega);refine CI.p (X9 k_) ?_;simp;by_cases hk:aE.gH k_=true
 ·rcases aE.uF hk with rfl|rfl|rfl|rfl
  all_goals
   simp[hk]
  all_goals
   repeat' first
    | (refine bX (fun h=>?_) (fun h=>?_)<;>simp only[h]<;>simp[h,wA,wB,wC,wD])
    | (refine aJ (fun h=>?_) (fun h=>?_)<;>simp only[h]<;>simp[h,wA,wB,wC,wD])
    | (refine⟨(show nY _ _ from by decide+kernel),?_⟩)
    |fail
  all_goals
   clear wA wB wC wD;first
    | (refine aB ?_ rfl;simp_all[aE.EF,aE.Ou.kV,aE.Ou.last,aE.Ou.set];done)
    | (refine⟨by decide+kernel,aB ?_ rfl⟩;simp_all[aE.EF,aE.Ou.kV,aE.Ou.last,aE.Ou.set];done)
 ·simp[hk];exact aB (by simp[aE.EF,hk]) rfl
theorem zeM (o:aE.Ou)(k_ n:Int):Ct prog 310 [st (CN o),int k_,int n] [] [] (.bI [st (CN (aE.done o k_ n).1),int (aE.done o k_ n).2]) []:=by
 refine Ct.B func310 ?_;simp;refine CI.p (Iw o) ?_;simp;simp only[aE.done];generalize aE.zG o=q;obtain⟨A,B,C,D,X,Y,Z,T,M⟩:=q;refine CI.p (X9 k_) ?_;simp;by_cases hk:aE.gH k_=true
 ·rcases aE.uF hk with rfl|rfl|rfl|rfl
  all_goals
   simp[hk]
  all_goals
   repeat' first
    | (refine bX (fun h=>?_) (fun h=>?_)<;>simp only[h]<;>simp[h])
    | (refine aJ (fun h=>?_) (fun h=>?_)<;>simp only[h]<;>simp[h])
    | (refine⟨(show nY _ _ from by decide+kernel),?_⟩)
    |fail
  all_goals
   first
    | (refine aB ?_ rfl;simp_all[aE.G1,aE.Ou.kV,aE.Ou.last,aE.Ou.set];done)
    | (refine⟨by decide+kernel,aB ?_ rfl⟩;simp_all[aE.G1,aE.Ou.kV,aE.Ou.last,aE.Ou.set];done)
 ·simp[hk];exact aB (by simp[aE.G1,hk]) rfl
attribute [simp] ntmps371 results371 ntmps299 results299 ntmps229 results229 ntmps228 results228 ntmps227 results227 ntmps300 results300 ntmps230 results230 ntmps302 results302 ntmps231 results231 ntmps375 results375 ntmps304 results304 ntmps305 results305 ntmps232 results232 ntmps233 results233 ntmps307 results307 ntmps308 results308 ntmps234 results234 ntmps174 results174
theorem zgd (l:List G.Mark)(kf:D)(p:G.Mark->Bool)(hf:∀x∈l,cB prog (.d kf) [st (nU x)] (bool (p x)))(hl:l.length<=9223372036854775807):Ct prog 371 [aC (l.map nU),.d kf] [] [] (int (jH p l)) []:=by
 refine Ct.B func371 ?_;simp;refine aQ.inv mixed rfl (ι:={k:Nat//k<=(l).length/\(l.take k).all (fun x=>!p x)=true}) (fun k=>[(0,aC (l.map nU)),(1,.d kf),(7,int l.length),(8,int k.1)]) (fun k=>[]) 64 (fun k=>(l).length-k.1) ⟨0,by omega,by simp⟩ [] (by constructor<;>simp) ?_;rintro⟨k,hk1,hi⟩ B hB;refine CI.n ?_;simp;refine aJ (fun h=>?_) (fun h=>?_)
 ·have hk:k<(l).length:=by simpa using h
  obtain⟨r,hx,hr,hm,ht,hd,hw⟩:=dL hk;simp only[h];simp[hr,hw];refine CI.ff (hf r hm) rfl rfl rfl ?_;simp;refine aJ (fun hp=>?_) (fun hp=>?_)<;>simp only[hp]<;>simp
  ·exact aB (by simp[yE hi hr hp]) rfl
  ·refine hB _ ⟨k+1,by omega,by simp[ht,hi,hp]⟩ [] ?_ (by simp;omega);constructor<;>simp[hw,ht,hp]
 ·obtain rfl:k=(l).length:=by simp at h;omega
  simp only[h];simp;rw[fA]at hi;exact aB (by simp[yD (fun x hx=>by have:=eF.1 hi x hx;simpa using this)]) rfl
theorem Sw (l:List G.Mark)(kf:D)(p:G.Mark->Bool)(hf:∀x∈l,cB prog (.d kf) [st (nU x)] (bool (p x)))(hl:l.length<=9223372036854775807):Ct prog 299 [aC (l.map nU),.d kf] [] [] (bool (l.any p)) []:=by
 refine Ct.B func299 ?_;simp;refine CI.p (zgd l kf p hf hl) ?_;simp;rw[CU];exact aB (by simp) rfl
theorem DR (n m:Int):Ct prog 229 [int n,int m] [] [] (bool (cG n m)) []:=by
 refine Ct.B func229 ?_;simp
 repeat' first
  | (refine bX (fun h=>?_) (fun h=>?_)<;>simp only[h]<;>simp[h])
  | (refine aJ (fun h=>?_) (fun h=>?_)<;>simp only[h]<;>simp[h])
  | (refine⟨(show nY _ _ from by decide+kernel),?_⟩)
  |fail
 all_goals exact aB (by simp[*,cG]) rfl
theorem AJ (b:Bool)(e:Int):Ct prog 228 [bool b,int e] [] [] (int (if b=true then 0 else e)) []:=by
 refine Ct.B func228 ?_;simp;refine aJ (fun h1=>?_) (fun h1=>?_)<;>simp only[h1]<;>simp
 ·exact aB (by simp[h1]) rfl
 ·exact aB (by simp[h1]) rfl
theorem Qd (l:List Int)(hl:l.length<=1000):Ct prog 227 [aC (l.map lP)] [] [] (int ((l.find? fun e=>!decide (e=0)).getD 0)) []:=by
 refine Ct.B func227 ?_;simp;refine aQ.inv mixed rfl (ι:={k:Nat//k<=(l).length/\(l.take k).all (fun e=>decide (e=0))=true}) (fun k=>[(5,aC (l.map lP)),(6,int l.length),(7,int k.1)]) (fun k=>[]) 64 (fun k=>(l).length-k.1) ⟨0,by omega,by simp⟩ [] (by constructor<;>simp) ?_;rintro⟨k,hk1,hi⟩ B hB;refine CI.n ?_;simp;refine aJ (fun h=>?_) (fun h=>?_)
 ·have hk:k<(l).length:=by simpa using h
  obtain⟨x,hx,hr,hm,ht,hd,hw⟩:=dL hk;simp only[h];simp[hr,hw];refine aJ (fun h1=>?_) (fun h1=>?_)<;>simp only[h1]<;>simp<;>(try simp only[nT,nF,dT,dF]at h1)
  ·have e:(l.find? fun e=>!decide (e=0))=some x:=zg8 hi hr h1;exact aB (by simp[e]) rfl
  ·refine hB _ ⟨k+1,by omega,by simp[ht,hi,h1]⟩ [] ?_ (by simp;omega);constructor<;>simp[hw,ht,h1]
 ·obtain rfl:k=(l).length:=by simp at h;omega
  simp only[h];simp;rw[fA]at hi;have e:(l.find? fun e=>!decide (e=0))=none:=zg9 hi;exact aB (by simp[e]) rfl
theorem zag (m:G.Mark):Ct prog 300 [st (nU m)] [] [] (bool (!cG m.cS 2147483647)) []:=by
 refine Ct.B func300 ?_;simp;refine CI.p (DR m.cS 2147483647) ?_;simp;exact aB (by simp) rfl
theorem Ea (f:G.Frame)(hf:jB f):Ct prog 230 [st (fY f)] [] [] (bool (oA f)) []:=by
 refine Ct.B func230 ?_;simp;refine CI.p (Sw f.bF (dX 300) (fun m=>!cG m.cS 2147483647) (fun m _=>cB.of (zag m) call300 rfl rfl) hf.bF) ?_;simp;rw[JY];refine bX (fun h1=>?_) (fun h1=>?_)<;>simp only[h1]<;>simp
 ·have hl:f.aD.length<=64/\f.gone.length<=64/\f.bF.length<=64/\f.held.length<=64:=by
   simp only[pN,uT]at h1
   (repeat' split at h1)<;>omega
  obtain⟨l1,l2,l3,l4⟩:=hl;refine bX (fun h2=>?_) (fun h2=>?_)<;>simp only[h2]<;>simp
  ·refine CI.p (DR f.aF 2147483647) ?_;simp;refine bX (fun h3=>?_) (fun h3=>?_)<;>simp only[h3]<;>simp
   ·refine CI.p (DR f.cY 2147483647) ?_;simp;refine bX (fun h4=>?_) (fun h4=>?_)<;>simp only[h4]<;>simp
    ·refine CI.p (DR f.aL 2147483647) ?_;simp;refine bX (fun h5=>?_) (fun h5=>?_)<;>simp only[h5]<;>simp
     ·refine CI.p (DR f.err 15) ?_;simp;exact aB (by simp[oA,l1,l2,l3,l4,h2,h3,h4,h5]) rfl
     ·exact aB (by simp[oA,h5]) rfl
    ·exact aB (by simp[oA,h4]) rfl
   ·exact aB (by simp[oA,h3]) rfl
  ·exact aB (by simp[oA,h2]) rfl
 ·have hl:oA f=false:=by
   rw[Bool.eq_false_iff];intro hs;obtain⟨l1,l2,l3,l4,_⟩:=xR hs;simp only[Bool.not_eq_false',cP]at h1
   (repeat' split at h1)<;>omega
  exact aB (by simp[hl]) rfl
theorem zjp (f:G.Frame):Ct prog 302 [st (fY f)] [] [] (st (fY (tP f))) []:=by
 refine Ct.B func302 ?_;simp;refine aJ (fun h1=>?_) (fun h1=>?_)<;>simp only[h1]<;>simp<;>(try simp only[nT,nF,dT,dF]at h1)
 ·first|exact aB (by simp[tP,h1]) rfl|exact cK (by simp[tP,h1])
 refine aJ (fun h2=>?_) (fun h2=>?_)<;>simp only[h2]<;>simp<;>(try simp only[nT,nF,dT,dF]at h2)
 ·first|exact aB (by simp[tP,h1,h2]) rfl|exact cK (by simp[tP,h1,h2])
 refine aJ (fun h3=>?_) (fun h3=>?_)<;>simp only[h3]<;>simp<;>(try simp only[nT,nF,dT,dF]at h3)
 ·first|exact aB (by simp[tP,h1,h2,h3]) rfl|exact cK (by simp[tP,h1,h2,h3])
 refine aJ (fun h4=>?_) (fun h4=>?_)<;>simp only[h4]<;>simp<;>(try simp only[nT,nF,dT,dF]at h4)
 ·first|exact aB (by simp[tP,h1,h2,h3,h4]) rfl|exact cK (by simp[tP,h1,h2,h3,h4])
 ·first|exact aB (by simp[tP,h1,h2,h3,h4]) rfl|exact cK (by simp[tP,h1,h2,h3,h4])
theorem Ei (f:G.Frame)(hf:jB f):Ct prog 231 [st (fY f)] [] [] (bool (AM f)) []:=by
 refine Ct.B func231 ?_;simp;refine CI.p (zjp f) ?_;simp;refine CI.p (zbA (tP f) {fQ with type:=f.type} (zjo hf)) ?_ (ha:=by simp[fQ]);simp[fQ];exact cK (by simp[AM,fQ])
theorem zfU (k_:Key):Ct prog 375 [st (bP k_)] [] [] (bool (iY k_)) []:=by
 refine Ct.B func375 ?_;simp;refine CI.p (DR k_.kind 3) ?_;simp;refine bX (fun h1=>?_) (fun h1=>?_)<;>simp only[h1]<;>simp
 ·refine CI.p (IU k_.name) ?_;simp;exact aB (by simp[iY,h1]) rfl
 ·exact aB (by simp[iY,h1]) rfl
theorem Ac (k_:Key):Ct prog 304 [st (bP k_)] [] [] (bool (!iY k_)) []:=by
 refine Ct.B func304 ?_;simp;refine CI.p (zfU k_) ?_;simp;exact aB (by simp) rfl
theorem zeT (m:G.Mark):Ct prog 305 [st (nU m)] [] [] (bool (!iY m.k)) []:=by
 refine Ct.B func305 ?_;simp;refine CI.p (Ac m.k) ?_;simp;exact aB (by simp) rfl
theorem Lj (f:G.Frame)(hf:jB f):Ct prog 232 [st (fY f)] [] [] (bool (mV f)) []:=by
 refine Ct.B func232 ?_;simp;refine CI.p (TH f.gone (dX 304) (fun k=>!iY k) (fun k _=>cB.of (Ac k) call304 rfl rfl) hf.gone) ?_;simp;rw[JY,Bool.not_not];refine bX (fun h1=>?_) (fun h1=>?_)<;>simp only[h1]<;>simp
 ·refine CI.p (TH f.held (dX 304) (fun k=>!iY k) (fun k _=>cB.of (Ac k) call304 rfl rfl) hf.held) ?_;simp;rw[JY,Bool.not_not];refine bX (fun h2=>?_) (fun h2=>?_)<;>simp only[h2]<;>simp
  ·refine CI.p (Sw f.bF (dX 305) (fun m=>!iY m.k) (fun m _=>cB.of (zeT m) call305 rfl rfl) hf.bF) ?_;simp;rw[JY,Bool.not_not];exact aB (by simp[mV,h1,h2]) rfl
  ·exact aB (by simp[mV,h1,h2]) rfl
 ·exact aB (by simp[mV,h1]) rfl
theorem Tl (f:G.Frame)(hf:jB f):Ct prog 233 [st (fY f)] [] [] (int (oF f.aD)) []:=by
 refine Ct.B func233 ?_;simp;have hl:=hf.aD.1;refine aQ.inv mixed rfl (ι:={k:Nat//k<=(f.aD).length/\(f.aD.take k).all (fun r=>decide (eL r=0))=true}) (fun k=>[(7,aC (f.aD.map aK)),(8,int f.aD.length),(9,int k.1)]) (fun k=>[]) 64 (fun k=>(f.aD).length-k.1) ⟨0,by omega,by simp⟩ [] (by constructor<;>simp) ?_;rintro⟨k,hk1,hi⟩ B hB;refine CI.n ?_;simp;refine aJ (fun h=>?_) (fun h=>?_)
 ·have hk:k<(f.aD).length:=by simpa using h
  obtain⟨x,hx,hr,hm,ht,hd,hw⟩:=dL hk;simp only[h];simp[hr,hw];refine CI.p (D3 x) ?_;simp;refine aJ (fun h1=>?_) (fun h1=>?_)<;>simp only[h1]<;>simp<;>(try simp only[nT,nF,dT,dF]at h1)
  ·have e:=ZA hi hr h1;exact aB (by simp[e]) rfl
  ·refine hB _ ⟨k+1,by omega,by simp[ht,hi,h1]⟩ [] ?_ (by simp;omega);constructor<;>simp[hw,ht,h1]
 ·obtain rfl:k=(f.aD).length:=by simp at h;omega
  simp only[h];simp;rw[fA]at hi;have e:=Qc hi;exact aB (by simp[e]) rfl
theorem zfT (f:G.Frame)(r:aA):Ct prog 307 [st (aK r),.d (.bM (fY f))] [] [] (bool (!decide (r.kind=f.kind))) []:=by
 refine Ct.B func307 ?_;simp;exact aB (by simp) rfl
theorem zfS (f:G.Frame)(k_:Key):Ct prog 308 [st (bP k_),.d (.bM (fY f))] [] [] (bool (!decide (k_.kind=f.kind))) []:=by
 refine Ct.B func308 ?_;simp;exact aB (by simp) rfl
theorem Nr (f:G.Frame)(hf:jB f):Ct prog 234 [st (fY f)] [] [] (bool (uE f)) []:=by
 refine Ct.BS func234 mixed 1 400 ?_;simp;refine CI.s (tm:=[(1,.d (.bM (fY f)))]) (mm:=[]) (nx:=65) [] [64] (by constructor<;>simp) ?_;refine CI.n ?_;simp;refine CI.p (Sv f.aD (.fn (.func 307) [] [.bM (fY f)]) (fun r=>!decide (r.kind=f.kind)) (fun r _=>cB.mY (by exact zfT f r) call307 rfl rfl) hf.aD.len) ?_;simp;rw[JY,Bool.not_not];refine bX (fun h1=>?_) (fun h1=>?_)<;>simp only[h1]<;>simp
 ·refine CI.p (TH f.gone (.fn (.func 308) [] [.bM (fY f)]) (fun k=>!decide (k.kind=f.kind)) (fun k _=>cB.mY (by exact zfS f k) call308 rfl rfl) hf.gone) ?_;simp;rw[JY,Bool.not_not];have e:uE f=f.gone.all fun k=>decide (k.kind=f.kind):=by rw[uE,h1,tU]
  rw[<-e];exact aB (by simp) rfl
 ·skip
  have e:uE f=false:=by rw[uE,h1,Bool.false_and]
  exact aB (by simp[e]) rfl
theorem GY (f:G.Frame)(hf:jB f):Ct prog 174 [st (fY f)] [] [] (int (eX f)) []:=by
 refine Ct.B func174 ?_;simp;refine CI.p (DR f.type 3) ?_;simp;refine bX (fun h1=>?_) (fun h1=>?_)<;>simp only[h1]<;>simp
 ·refine CI.p (DR f.kind 3) ?_;simp;refine CI.p (AJ (cG f.kind 3) 4) ?_;simp;refine CI.p (Ea f hf) ?_;simp;refine CI.p (AJ (oA f) 3) ?_;simp;refine CI.p (Ei f hf) ?_;simp;refine CI.p (AJ (AM f) 2) ?_;simp;refine CI.p (Lj f hf) ?_;simp;refine CI.p (AJ (mV f) 5) ?_;simp;refine CI.p (Tl f hf) ?_;simp;refine CI.p (Nr f hf) ?_;simp;refine CI.p (AJ (uE f) 2) ?_;simp;refine CI.g [1664] [] (Qd [if cG f.kind 3=true then 0 else 4,if oA f=true then 0 else 3,if AM f=true then 0 else 2,if mV f=true then 0 else 5,oF f.aD,if uE f=true then 0 else 2] (by simp)) ?_;simp;have e:=zhb f;rw[h1,tU]at e;rw[e];exact cK (by simp)
 ·skip
  refine CI.p (AJ false 4) ?_;simp;refine CI.p (Ea f hf) ?_;simp;refine CI.p (AJ (oA f) 3) ?_;simp;refine CI.p (Ei f hf) ?_;simp;refine CI.p (AJ (AM f) 2) ?_;simp;refine CI.p (Lj f hf) ?_;simp;refine CI.p (AJ (mV f) 5) ?_;simp;refine CI.p (Tl f hf) ?_;simp;refine CI.p (Nr f hf) ?_;simp;refine CI.p (AJ (uE f) 2) ?_;simp;refine CI.g [1664] [] (Qd [4,if oA f=true then 0 else 3,if AM f=true then 0 else 2,if mV f=true then 0 else 5,oF f.aD,if uE f=true then 0 else 2] (by simp)) ?_;simp;have e:eX f=4:=by simp[eX,h1]
  exact cK (by simp[e])
attribute [simp] ntmps38 results38 ntmps262 results262 ntmps204 results204 ntmps205 results205 ntmps154 results154 ntmps103 results103 ntmps235 results235 ntmps236 results236 ntmps238 results238 ntmps237 results237 ntmps175 results175 ntmps118 results118
theorem wM (e m:Int):Ct prog 38 [int e,int m] [] [] (st (oP (kP e m))) []:=by
 refine Ct.B func38 ?_;simp;refine CI.p (OY m) ?_;simp;have h:=zhz e;exact aB (by simp[kP,h,xN,fQ]) rfl
theorem VC (f:G.Frame)(hf:jB f):Ct prog 262 [st (fY f)] [] [] (bool (decide (eX f=0))) []:=by
 refine Ct.B func262 ?_;simp;refine CI.p (GY f hf) ?_;simp;exact aB (by simp) rfl
theorem zbi (v:View)(hv:v.held.length<=9223372036854775807)(hl:v.bF.length<=1000000):Ct prog 204 [st (DT v)] [] [] (bool (H7 v)) []:=by
 refine Ct.B func204 ?_;simp;refine CI.p (Mj v.bF hl) ?_;simp;refine CI.p (VC (rK v) (zgu v (by omega))) ?_ (ha:=by simp[rK]);simp[rK];refine bX (fun h1=>?_) (fun h1=>?_)<;>simp only[h1]<;>simp
 ·refine CI.p (VC (tM v) (Qu hv)) ?_ (ha:=by simp[tM]);simp[tM];exact aB (by simp[H7,h1,rK,tM]) rfl
 ·exact aB (by simp[H7,h1,rK]) rfl
theorem Uw (s:cL)(hs:jB s.v.push):Ct prog 205 [st (oP s)] [] [] (bool (nO s)) []:=by
 refine Ct.B func205 ?_;simp;refine bX (fun h1=>?_) (fun h1=>?_)<;>simp only[h1]<;>simp
 ·have h1':s.lB=false:=by simpa using h1
  exact aB (by simp[nO,h1']) rfl
 have h1':s.lB=true:=by simpa using h1
 refine CI.p (VC s.v.push hs) ?_;simp;refine bX (fun h2=>?_) (fun h2=>?_)<;>simp only[h2]<;>simp
 ·have h2':¬eX s.v.push=0:=by simpa using h2
  exact aB (by simp[nO,h2']) rfl
 have h2':eX s.v.push=0:=by simpa using h2
 refine bX (fun h3=>?_) (fun h3=>?_)<;>simp only[h3]<;>simp
 ·have h3':¬s.v.push.type=1:=by simpa using h3
  exact aB (by simp[nO,h3']) rfl
 have h3':s.v.push.type=1:=by simpa using h3
 refine aJ (fun h4=>?_) (fun h4=>?_)<;>simp only[h4]<;>simp
 ·have h4':¬s.v.push.aF=s.aF:=by simpa using h4
  exact aB (by simp[nO,h4']) rfl
 have h4':s.v.push.aF=s.aF:=by simpa using h4
 rcases PO h2' with hk|hk|hk|hk
 ·simp[hk];refine bX (fun h5=>?_) (fun h5=>?_)<;>simp only[h5]<;>simp[hk]
  ·exact cK (by simp[nO,h1',h2',h3',h4',hk,h5,aE.Ou.kV,aE.Ou.last])
  ·exact cK (by simp[nO,h1',h2',h3',h4',hk,h5,aE.Ou.kV,aE.Ou.last])
 ·simp[hk];refine bX (fun h5=>?_) (fun h5=>?_)<;>simp only[h5]<;>simp[hk]
  ·exact cK (by simp[nO,h1',h2',h3',h4',hk,h5,aE.Ou.kV,aE.Ou.last])
  ·exact cK (by simp[nO,h1',h2',h3',h4',hk,h5,aE.Ou.kV,aE.Ou.last])
 ·simp[hk];refine bX (fun h5=>?_) (fun h5=>?_)<;>simp only[h5]<;>simp[hk]
  ·exact cK (by simp[nO,h1',h2',h3',h4',hk,h5,aE.Ou.kV,aE.Ou.last])
  ·exact cK (by simp[nO,h1',h2',h3',h4',hk,h5,aE.Ou.kV,aE.Ou.last])
 ·simp[hk];refine bX (fun h5=>?_) (fun h5=>?_)<;>simp only[h5]<;>simp[hk]
  ·exact cK (by simp[nO,h1',h2',h3',h4',hk,h5,aE.Ou.kV,aE.Ou.last])
  ·exact cK (by simp[nO,h1',h2',h3',h4',hk,h5,aE.Ou.kV,aE.Ou.last])
theorem zbq (s:cL)(hd:s.v.held.length<=9223372036854775807)(hs:jB s.v.push)(hl:s.v.bF.length<=1000000):Ct prog 154 [st (oP s)] [] [] (bool (gC s)) []:=by
 refine Ct.B func154 ?_;simp;refine bX (fun h1=>?_) (fun h1=>?_)<;>simp only[h1]<;>simp
 ·skip
  refine bX (fun h2=>?_) (fun h2=>?_)<;>simp only[h2]<;>simp
  ·skip
   refine bX (fun h3=>?_) (fun h3=>?_)<;>simp only[h3]<;>simp
   ·skip
    refine bX (fun h4=>?_) (fun h4=>?_)<;>simp only[h4]<;>simp
    ·skip
     refine bX (fun h5=>?_) (fun h5=>?_)<;>simp only[h5]<;>simp
     ·skip
      refine CI.p (Oy s.out) ?_;simp;refine bX (fun h6=>?_) (fun h6=>?_)<;>simp only[h6]<;>simp
      ·skip
       refine CI.p (zbi s.v hd hl) ?_;simp;refine bX (fun h7=>?_) (fun h7=>?_)<;>simp only[h7]<;>simp
       ·skip
        refine bX (fun h8=>?_) (fun h8=>?_)<;>simp only[h8]<;>simp
        ·exact aB (by simp[gC,u9,cG,h1,h2,h3,h4,h5,h6,h7,h8]) rfl
        ·refine CI.p (Uw s hs) ?_;simp;exact aB (by simp[gC,u9,cG,h1,h2,h3,h4,h5,h6,h7,h8]) rfl
       ·exact aB (by simp[gC,h7]) rfl
      ·exact aB (by simp[gC,h6]) rfl
     ·exact aB (by simp[gC,u9,cG,h5]) rfl
    ·exact aB (by simp[gC,u9,cG,h4]) rfl
   ·exact aB (by simp[gC,u9,cG,h3]) rfl
  ·exact aB (by simp[gC,u9,cG,h2]) rfl
 ·exact aB (by simp[gC,u9,cG,h1]) rfl
theorem Dp (s:cL)(hd:s.v.held.length<=9223372036854775807)(hs:jB s.v.push)(hl:s.v.bF.length<=1000000):Ct prog 103 [st (oP s)] [] [] (st (oP (kA s))) []:=by
 refine Ct.B func103 ?_;simp;refine CI.p (zbq s hd hs hl) ?_;simp;refine aJ (fun h1=>?_) (fun h1=>?_)<;>simp only[h1]<;>simp
 ·have h1':gC s=false:=by simpa using h1
  refine CI.p (wM s.aF s.out.m) ?_;simp;exact aB (by simp[kA,h1']) rfl
 ·have h1':gC s=true:=by simpa using h1
  exact aB (by simp[kA,h1']) rfl
theorem VE (s:cL)(hs:xB s)(hl:s.v.bF.length<=1000000):Ct prog 103 [st (oP s)] [] [] (st (oP (kA s))) []:=Dp s hs.v.held hs.v.push hl
theorem zgt (s:cL)(p:aT)(f:G.Frame)(hp:DA p)(hl:f.bF.length<=1000):Ct prog 235 [st (oP s),st (jT p),st (fY f)] [] [] (.bI [st (oP (uI s p f).1),int (uI s p f).2]) []:=by
 refine Ct.B func235 ?_;simp;refine aJ (fun h1=>?_) (fun h1=>?_)<;>simp only[h1]<;>simp
 ·exact aB (by simp[uI,h1]) rfl
 refine CI.p (zfQ p f.bF hp hl) ?_;simp;have hk:=X8 p f.bF;refine aJ (fun h2=>?_) (fun h2=>?_)<;>simp only[h2]<;>simp<;>(try simp only[nT,nF,dT,dF]at h2)
 ·refine CI.cc [] (RO (qL p f.bF) (by omega)) ?_;simp;first|exact aB (by simp[uI,wS,h1,h2]) rfl|exact cK (by simp[uI,wS,h1,h2])
 ·first|exact aB (by simp[uI,wS,h1,h2]) rfl|exact cK (by simp[uI,wS,h1,h2])
theorem zcK (s:cL)(p:aT)(f:G.Frame):Ct prog 236 [st (oP s),st (jT p),st (fY f)] [] [] (.bI [st (oP s),int 2]) []:=by
 refine Ct.B func236 ?_;simp;exact aB (by simp) rfl
theorem zhR (s:cL)(p:aT)(f:G.Frame):Ct prog 238 [st (oP s),st (jT p),st (fY f)] [] [] (.bI [st (oP (CY s f).1),int (CY s f).2]) []:=by
 refine Ct.B func238 ?_;simp;refine CI.p (ZL s.v f.aL f.held) ?_;simp;exact aB (by simp[CY]) rfl
theorem zkD (s:cL)(p:aT)(f:G.Frame)(hl:s.v.open_=true->s.v.bF.length+s.v.push.aD.length<=1000000/\s.v.push.gone.length<=9223372036854775807)(hp:p.bV.length<=1000000):Ct prog 237 [st (oP s),st (jT p),st (fY f)] [] [] (.bI [st (oP (qU s p f).1),int (qU s p f).2]) []:=by
 refine Ct.B func237 ?_;simp;refine CI.p (zeM s.out f.kind f.cY) ?_;simp;refine aJ (fun h1=>?_) (fun h1=>?_)<;>simp only[h1]<;>simp<;>(try simp only[nT,nF,dT,dF]at h1)
 ·first|exact aB (by simp[qU,h1]) rfl|exact cK (by simp[qU,h1])
 refine aJ (fun h2=>?_) (fun h2=>?_)<;>simp only[h2]<;>simp
 ·have h2':s.v.open_=false:=by simpa using h2
  first|exact aB (by simp[qU,h1,h2']) rfl|exact cK (by simp[qU,h1,h2'])
 have h2':s.v.open_=true:=by simpa using h2
 refine CI.p (zkg s.v f (hl h2').1 (hl h2').2) ?_;simp;refine aJ (fun h3=>?_) (fun h3=>?_)<;>simp only[h3]<;>simp
 ·first|exact aB (by simp[qU,h1,h2',h3]) rfl|exact cK (by simp[qU,h1,h2',h3])
 refine aJ (fun h4=>?_) (fun h4=>?_)<;>simp only[h4]<;>simp<;>(try simp only[nT,nF,dT,dF]at h4)
 ·have h4':64<(j4 s.v f).bF.length:=by omega
  first|exact aB (by simp[qU,h1,h2',h3,h4']) rfl|exact cK (by simp[qU,h1,h2',h3,h4'])
 have h4':¬64<(j4 s.v f).bF.length:=by omega
 refine CI.p (AX p hp) ?_;simp;exact cK (by simp[qU,h1,h2',h3,h4',oT])
theorem zjf :Ct prog 175 [int 0] [] [] (.d (dX 235)) []:=by
 refine Ct.B func175 ?_;simp;exact aB (by simp) rfl
theorem zje :Ct prog 175 [int 1] [] [] (.d (dX 236)) []:=by
 refine Ct.B func175 ?_;simp;exact aB (by simp) rfl
theorem zjd :Ct prog 175 [int 2] [] [] (.d (dX 237)) []:=by
 refine Ct.B func175 ?_;simp;exact aB (by simp) rfl
theorem zjc :Ct prog 175 [int 3] [] [] (.d (dX 238)) []:=by
 refine Ct.B func175 ?_;simp;exact aB (by simp) rfl
theorem zgE (s:cL)(p:aT)(f:G.Frame)(hd:s.v.held.length<=9223372036854775807)(hs:jB s.v.push)(hl:s.v.bF.length<=1000000)(hf:jB f)(hp:DA p)(hpl:p.bV.length<=1000000):Ct prog 118 [st (oP s),st (jT p),st (fY f)] [] [] (.bI [st (oP (handle s p f).1),int (handle s p f).2]) []:=by
 refine Ct.B func118 ?_;simp;refine CI.p (Dp s hd hs hl) ?_;simp;have hq0:=Dq s;have hh:handle s p f=qN (kA s) p f:=rfl;rw[hh];clear hh;generalize kA s=q at hq0⊢;have S:=lV.1 hq0;refine CI.p (GY f hf) ?_;simp;refine aJ (fun h1=>?_) (fun h1=>?_)<;>simp only[h1]<;>simp<;>(try simp only[nT,nF,dT,dF]at h1)
 ·first|exact aB (by simp[qN,h1]) rfl|exact cK (by simp[qN,h1])
 refine aJ (fun h2=>?_) (fun h2=>?_)<;>simp only[h2]<;>simp<;>(try simp only[nT,nF,dT,dF]at h2)
 ·first|exact aB (by simp[qN,h1,h2]) rfl|exact cK (by simp[qN,h1,h2])
 have F:=nW.1 h1;have L:=xR F.small;have hS:=S.hl;rcases Hf h1 with h3|h3|h3|h3
 ·refine CI.p zjf ?_ (ha:=by simp[h3]);simp[h3];refine CI.ff (cB.of (zgt q p f hp (by omega)) call235 rfl rfl) rfl rfl rfl ?_ (ha:=by simp[h3]);simp[h3];refine⟨by decide+kernel,?_⟩;exact aB (by simp[qN,h1,h2,h3]) rfl
 ·refine CI.p zje ?_ (ha:=by simp[h3]);simp[h3];refine CI.ff (cB.of (zcK q p f) call236 rfl rfl) rfl rfl rfl ?_ (ha:=by simp[h3]);simp[h3];refine⟨by decide+kernel,?_⟩;exact aB (by simp[qN,h1,h2,h3]) rfl
 ·refine CI.p zjd ?_ (ha:=by simp[h3]);simp[h3];refine CI.ff (cB.of (zkD q p f (zdB S) hpl) call237 rfl rfl) rfl rfl rfl ?_ (ha:=by simp[h3]);simp[h3];refine⟨by decide+kernel,?_⟩;exact aB (by simp[qN,h1,h2,h3]) rfl
 ·refine CI.p zjc ?_ (ha:=by simp[h3]);simp[h3];refine CI.ff (cB.of (zhR q p f) call238 rfl rfl) rfl rfl rfl ?_ (ha:=by simp[h3]);simp[h3];refine⟨by decide+kernel,?_⟩;exact aB (by simp[qN,h1,h2,h3]) rfl
end Go.Proofs.YtegplpagkajolaaGreatDoor
