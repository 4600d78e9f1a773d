/-
  LAYERS 9, 10, 13, 20, walked
-/
import Derived.Test.YtelooagbkmpdpaaGreatDoorWe
import Derived.Test.YtelooagbkmpdpaaGreatDoorAs
import Derived.Test.YtelooagbkmpdpaaGreatDoorPs
set_option linter.unusedSimpArgs false
set_option linter.unusedVariables false
set_option maxRecDepth 100000
set_option maxHeartbeats 8000000
section
open Go.RowKit
namespace Go.Proofs.YtelooagbkmpdpaaGreatDoor
open Go.AI Go.G
abbrev tP :Value:=.iface 262 (.agg #[.pointer (some ⟨4,132,none⟩)])
def sE :(Nat->Prop)->World->Prop:=λI w=>I 0/\w.cell? ⟨0,0,none⟩=some tP
theorem BE :vQ sE:=λI I' w w' h h1 h2=>⟨h2 0 h.1,(BQ (h1 0 h.1)).trans h.2⟩
set_option maxHeartbeats 4000000 in
theorem QB (b:Nat)(e:Int)(w:World)(hg:w.cell? ⟨0,0,none⟩=some tP)(hc:w.cell? ⟨b,0,none⟩=some (.int .i64 e)):
  Calls Tryz.prog 64 #[.iface 181 (.pointer (some ⟨b,0,none⟩))] w λev w'=>ev=.returned (.int .i64 e)/\Below w.heap.size w w'/\w.drawn<=w'.drawn:=by
 have hlt:0<w.heap.size:=by
  rcases pC 0 w.heap.size with h|h
  ·exact h
  ·simp[World.cell?,CN h]at hg
 have hbl:b<w.heap.size:=by
  rcases pC b w.heap.size with h|h
  ·exact h
  ·simp[World.cell?,CN h]at hc
 have hgA:(w.alloc (.cells #[.pointer none] 181)).cell? ⟨0,0,none⟩=some tP:=by
  rw[uF _ _ ⟨0,0,none⟩ hlt];exact hg
 have htA:(w.alloc (.cells #[.pointer none] 181)).cell? ⟨w.heap.size,0,none⟩=some (.pointer none):=by simp
 have hfA:(w.alloc (.cells #[.pointer none] 181)).frozen? ⟨w.heap.size,0,none⟩=false:=by simp
 have hAs:Calls Tryz.prog 114 #[.iface 181 (.pointer (some ⟨b,0,none⟩)),.iface 183 (.pointer (some ⟨w.heap.size,0,none⟩))] (w.alloc (.cells #[.pointer none] 181)) λev w'=>
   ev=.returned (.bool true)/\w'.cell? ⟨w.heap.size,0,none⟩=some (.pointer (some ⟨b,0,none⟩))/\w'.cell? ⟨b,0,none⟩=some (.int .i64 e)/\Below w.heap.size w w'/\w.drawn<=w'.drawn:=by
  refine(Fu _ _ (.pointer none) _ hgA htA hfA).mono ?_;rintro ev w' ⟨rfl,rfl⟩;have hB:Below w.heap.size w (((((w.alloc (.cells #[.pointer none] 181)).alloc (.cells #[.pointer (some ⟨w.heap.size,0,none⟩)] 183)).alloc (.cells #[.pointer (some ⟨4,183,none⟩),.pointer (some ⟨(w.alloc (.cells #[.pointer none] 181)).heap.size,0,none⟩),.int .u64 150] 219)).alloc (.cells #[.pointer (some ⟨4,183,none⟩),.pointer (some ⟨(w.alloc (.cells #[.pointer none] 181)).heap.size,0,none⟩),.int .u64 150] 219)).alloc (.cells #[.pointer (some ⟨b,0,none⟩)] 181)):=
   (((((Below.refl _ w).alloc (aY _) _).alloc (by simp) _).alloc (by simp;omega) _).alloc (by simp;omega) _).alloc (by simp;omega) _
  refine⟨rfl,?_,?_,hB.setCell (p:=⟨w.heap.size,0,none⟩) (by simp) _,aY _⟩
  ·refine(nL (BV (t:=181) (v:=.pointer none) ?_ _)).1;refine(Below.heap_alloc _ _ _ (by simp;omega)).trans ?_;refine(Below.heap_alloc _ _ _ (by simp;omega)).trans ?_;refine(Below.heap_alloc _ _ _ (by simp;omega)).trans ?_;refine(Below.heap_alloc _ _ _ (by simp)).trans ?_;exact World.alloc_heap_new w _
  ·have h1:=hB.block b hbl;refine(BQ (a:=⟨b,0,none⟩) ((oD _ (show b≠w.heap.size by omega)).trans h1)).trans hc
 go_enter Tryz.func64,Tryz.ntmps64
 go_wp2_with (go_at_call 114;refine hAs.mono ?_;rintro ev w' ⟨rfl,c1,c2,c3,c4⟩)
 go_ret
 exact⟨rfl,c3,c4⟩
theorem QA (w:World):Calls Tryz.prog 64 #[.nilIface] w λev w'=>ev=.returned (.int .i64 0)/\Below w.heap.size w w'/\w.drawn<=w'.drawn:=by
 go_enter Tryz.func64,Tryz.ntmps64
 go_wp2_with (go_at_call 114;refine(Ft _ _).mono ?_;rintro ev w' ⟨rfl,rfl⟩)
 go_ret
 exact⟨rfl,(Below.refl _ w).alloc (aY _) _,aY _⟩
theorem P9 :gV sE Tryz.prog 64 [.d (.v .nilIface)] [] [] (int 0) []:=by
 refine gV.KA λσ I w vs hG hI hl ha hm=>?_
 match vs,hl with
 |[v],_=>
  have h0:=ha 0 _ v rfl rfl;obtain rfl:=cH h0;exact QA w
theorem P8 (e:Int)(cs:List AV)(T:TypeId):gV sE Tryz.prog 64 [.dC 181 (.ptr 0 0)] [(0,.cells (int e::cs) T)] [] (int e) []:=by
 refine gV.KA λσ I w vs hG hI hl ha hm=>?_
 match vs,hl with
 |[v],_=>
  have h0:=ha 0 _ v rfl rfl;obtain⟨y,hy,hb,hn⟩:=hm.aS 0 _ rfl;cases h0 with
  |dC h0=>cases h0 with
   | @ptr _ _ n h0=>
     rw[h0]at hy;cases hy;cases hb with
     | @cells _ _ _ arr c1 c2 c3=>
       refine QB n e w hG.2 ?_;have hlt:0<arr.size:=by rw[c2];simp
       have e0:arr[0]? =some arr[0]:=iV hlt;have:=c3 0 _ arr[0] rfl e0;have e1:arr[0]=.int .i64 e:=by
        generalize arr[0]=z at this;exact cH this
       simp[World.cell?,c1,e0,e1]
theorem CY (s:aZ):¬(cO s).aU=[]:=by
 unfold cO;split
 ·simp[dU]
 ·rename_i h;simpa using h
theorem CZ {s:aZ}(hl:s.aU.length<=1000000):(cO s).aU.length<=1000000:=by
 unfold cO;split
 ·simp[dU]
 ·exact hl
attribute [simp] Tryz.ntmps40 Tryz.results40
theorem DX (s:aZ)(hl:s.aU.length<=1000000):Ct Tryz.prog 40 [st (dI s)] [] [] (.bC [int ((cO s).aU.length-1),aD ((cM (cO s)).map aF)]) []:=by
 refine Ct.B Tryz.func40 ?_;simp;refine CI.p (CX s) ?_;simp;have h1:=CY s;have h2:=CZ hl;have h0:0<(cO s).aU.length:=CD.2 h1;have hw:IntKind.wrap .i64 (((cO s).aU.length:Int)-1)=((cO s).aU.length:Int)-1:=wrap_i64 (by omega) (by omega);refine CI.p (EL (cO s) h1 h2) ?_;simp;refine⟨by decide+kernel,?_⟩;first|exact aA (by simp[hw]) rfl|exact aB (by simp[hw])
attribute [simp] Tryz.ntmps26 Tryz.results26
theorem Hc (s:aZ)(aL:List aC)(gone:List Key)(hl:s.aU.length<=1000000)(hok:gG (cM (cO s)))(hn:(cM (cO s)).length+aL.length<=1000000)(hg:gone.length<=9223372036854775807):gV sE Tryz.prog 26 [st (dI s),aD (aL.map aF),aD (gone.map aK)] [] [] (.bC [st (dI (wM (cO s) aL gone)),int (mL (cO s) aL gone)]) []:=by
 refine gV.B BE Tryz.func26 ?_;simp;refine CI.p (CX s) ?_;simp;have h1:=CY s;have h2:=CZ hl;have hp:=UO (cO s) aL gone h1 h2 hok hn hg;by_cases he:mL (cO s) aL gone=0
 ·simp only[j1,j0,bA he]at hp;refine CI.p hp ?_;simp;refine CI.j [] P9 ?_;simp;refine⟨by decide+kernel,?_⟩;first|exact aA (by simp[he]) rfl|exact aB (by simp[he])
 ·simp only[j1,j0,aR he]at hp;refine CI.cc [] hp ?_;simp;refine CI.j [512] (P8 (mL (cO s) aL gone) [int (cO s).aU.length] 185) ?_;simp;refine⟨by decide+kernel,?_⟩;first|exact aA (by simp[he]) rfl|exact aB (by simp[he])
end Go.Proofs.YtelooagbkmpdpaaGreatDoor
end
namespace Go.G
open Go.AI

end Go.G
namespace Go.Proofs.YtelooagbkmpdpaaGreatDoor
open Go.AI Go.G
attribute [simp] Tryz.ntmps59 Tryz.results59
theorem P5 (a b:List aC)(ha:gG a):Ct Tryz.prog 59 [aD (a.map aF),aD (b.map aF)] [] [] (bool (decide (a=b))) []:=by
 refine Ct.B Tryz.func59 ?_;simp;refine aE (λh1=>?_) (λh1=>?_)<;>simp only[h1]<;>simp<;>(try simp only[nT,nF,dT,dF]at h1)
 ·have e:¬a=b:=λe=>h1 (by rw[e]);first|exact aA (by simp[e]) rfl|exact aB (by simp[e])
 have hab:a.length=b.length:=by omega
 have hh:=ha.len;refine aJ.inv mixed rfl (ι:={k:Nat//k<=(a).length/\a.take k=b.take k}) (λk=>[(0,aD (a.map aF)),(1,aD (b.map aF)),(5,int k.1)]) (λk=>[]) 64 (λk=>(a).length-k.1) ⟨0,by omega,by simp⟩ [] (by constructor<;>simp) ?_;rintro⟨k,hk1,hi⟩ B hB;refine CI.n ?_;simp;refine aE (λh=>?_) (λh=>?_)
 ·have hk:k<(a).length:=by simpa using h
  obtain⟨x,hx,hr,hm,ht,hd,hw⟩:=bB hk;simp only[h];simp[hr,hw];have hrb:b[k]? =some b[k]:=bL (by omega);have htb:b.take (k+1)=b.take k++[b[k]]:=by rw[eW,hrb];rfl
  have hne:x≠b[k]->a≠b:=by
   intro h2 e;subst e;rw[hr]at hrb;cases hrb;exact h2 rfl
  generalize b[k]=y at hrb htb hne;simp[hrb];refine CI.p (DC x y (ha.all x hm)) ?_;simp;refine⟨by decide+kernel,?_⟩;refine aE (λh2=>?_) (λh2=>?_)<;>simp only[h2]<;>simp<;>(try simp only[nT,nF,dT,dF]at h2)
  ·first|exact aA (by simp[hne h2]) rfl|exact aB (by simp[hne h2])
  ·refine hB _ ⟨k+1,by omega,by rw[ht,htb,hi,h2]⟩ [] ?_ (by simp;omega);constructor<;>simp[hw]
 ·obtain rfl:k=(a).length:=by simp at h;omega
  simp only[h];simp;have e:a=b:=by
   rw[bK,hab,bK]at hi;exact hi
  first|exact aA (by simp[e]) rfl|exact aB (by simp[e])
abbrev zR (i:Nonce.Nn):List D:=[iD i.l0,iD i.l1,iD i.l2,iD i.l3,iD i.m]
attribute [simp] Tryz.ntmps110 Tryz.results110
theorem N9 (n:Int):Ct Tryz.prog 110 [int n] [] [] (int (Nonce.jG n)) []:=by
 refine Ct.B Tryz.func110 ?_;simp;have e:=OA n;first|exact aA (by simp[e]) rfl|exact aB (by simp[e])
attribute [simp] Tryz.ntmps60 Tryz.results60
theorem HD (n:Int):Ct Tryz.prog 60 [int n] [] [] (.bC [st (kQ (Nonce.nR n)),st (zR (Nonce.sU n))]) []:=by
 refine Ct.B Tryz.func60 ?_;simp;refine CI.p (N9 n) ?_;simp;first|exact aA (by simp[Nonce.nR,Nonce.sU]) rfl|exact aB (by simp[Nonce.nR,Nonce.sU])
attribute [simp] Tryz.ntmps94 Tryz.results94
theorem LK (k_:Int):Ct Tryz.prog 94 [int k_] [] [] (bool (Nonce.lO k_)) []:=by
 refine Ct.B Tryz.func94 ?_;simp;refine aM (λh1=>?_) (λh1=>?_)<;>simp only[h1]<;>simp<;>(try simp only[nT,nF,dT,dF]at h1)
 ·first|exact aA (by simp[Nonce.lO,h1]) rfl|exact aB (by simp[Nonce.lO,h1])
 ·first|exact aA (by simp[Nonce.lO,h1]) rfl|exact aB (by simp[Nonce.lO,h1])
attribute [simp] Tryz.ntmps103 Tryz.results103
theorem RC (i:Nonce.Nn):Ct Tryz.prog 103 [st (zR i)] [] [] (bool (Nonce.eX i)) []:=by
 refine Ct.B Tryz.func103 ?_;simp;refine aJ.un ?_;simp;refine⟨by decide+kernel,?_⟩;refine aJ.un ?_;simp;refine⟨by decide+kernel,?_⟩;refine aJ.un ?_;simp;refine⟨by decide+kernel,?_⟩;refine aJ.un ?_;simp;refine⟨by decide+kernel,?_⟩;refine aJ.un ?_;simp;refine aM (λh=>?_) (λh=>?_)<;>simp only[h]<;>simp
 ·refine CI.p (N9 i.m) ?_;simp;have e:=Q8 i h;first|exact aA (by simp[e]) rfl|exact aB (by simp[e])
 ·have e:=RA i h;first|exact aA (by simp[e]) rfl|exact aB (by simp[e])
attribute [simp] Tryz.ntmps52 Tryz.results52
theorem MC (o:Nonce.Ou):Ct Tryz.prog 52 [st (kQ o)] [] [] (bool (Nonce.fX o)) []:=by
 refine Ct.B Tryz.func52 ?_;simp;obtain⟨a,b,c,d,x,y,z,t,m⟩:=o;refine aJ.un ?_;simp
 repeat' first
  | (refine aM (λh=>?_) (λh=>?_)<;>simp only[h]<;>simp[h])
  | (refine aE (λh=>?_) (λh=>?_)<;>simp only[h]<;>simp[h])
  | (refine⟨(show gH _ _ from by decide+kernel),?_⟩)
  |fail
 all_goals(first| (exact aA (by simp[Nonce.fX, *]) rfl)| (refine⟨by decide+kernel,?_⟩;exact aA (by simp[Nonce.fX, *]) rfl)|skip)
 all_goals
  refine aJ.un ?_;simp
 repeat' first
  | (refine aM (λh=>?_) (λh=>?_)<;>simp only[h]<;>simp[h])
  | (refine aE (λh=>?_) (λh=>?_)<;>simp only[h]<;>simp[h])
  | (refine⟨(show gH _ _ from by decide+kernel),?_⟩)
  |fail
 all_goals(first| (exact aA (by simp[Nonce.fX, *]) rfl)| (refine⟨by decide+kernel,?_⟩;exact aA (by simp[Nonce.fX, *]) rfl)|skip)
 all_goals
  refine aJ.un ?_;simp
 repeat' first
  | (refine aM (λh=>?_) (λh=>?_)<;>simp only[h]<;>simp[h])
  | (refine aE (λh=>?_) (λh=>?_)<;>simp only[h]<;>simp[h])
  | (refine⟨(show gH _ _ from by decide+kernel),?_⟩)
  |fail
 all_goals(first| (exact aA (by simp[Nonce.fX, *]) rfl)| (refine⟨by decide+kernel,?_⟩;exact aA (by simp[Nonce.fX, *]) rfl)|skip)
 all_goals
  refine aJ.un ?_;simp
 repeat' first
  | (refine aM (λh=>?_) (λh=>?_)<;>simp only[h]<;>simp[h])
  | (refine aE (λh=>?_) (λh=>?_)<;>simp only[h]<;>simp[h])
  | (refine⟨(show gH _ _ from by decide+kernel),?_⟩)
  |fail
 all_goals(first| (exact aA (by simp[Nonce.fX, *]) rfl)| (refine⟨by decide+kernel,?_⟩;exact aA (by simp[Nonce.fX, *]) rfl)|skip)
 all_goals
  refine aJ.un ?_;simp
 all_goals
  refine CI.p (RC ⟨a,b,c,d,m⟩) ?_;simp
 all_goals(first| (exact aA (by simp[Nonce.fX,Nonce.Ou.kL, *]) rfl)| (refine⟨by decide+kernel,?_⟩;exact aA (by simp[Nonce.fX,Nonce.Ou.kL, *]) rfl))
attribute [simp] Tryz.ntmps93 Tryz.results93
theorem JP (o:Nonce.Ou):Ct Tryz.prog 93 [st (kQ o)] [] [] (st (kQ (Nonce.jR o))) []:=by
 refine Ct.B Tryz.func93 ?_;simp;refine CI.p (MC o) ?_;simp;refine aE (λh1=>?_) (λh1=>?_)<;>simp only[h1]<;>simp<;>(try simp only[nT,nF,dT,dF]at h1)
 ·first|exact aA (by simp[Nonce.jR,h1]) rfl|exact aB (by simp[Nonce.jR,h1])
 ·refine CI.p (HD o.m) ?_;simp;first|exact aA (by simp[Nonce.jR,h1]) rfl|exact aB (by simp[Nonce.jR,h1])
attribute [simp] Tryz.ntmps42 Tryz.results42
theorem KC (o:Nonce.Ou)(k_:Int):Ct Tryz.prog 42 [st (kQ o),int k_] [] [] (.bC [st (kQ (Nonce.push o k_).1),int (Nonce.push o k_).2.1,int (Nonce.push o k_).2.2]) []:=by
 refine Ct.B Tryz.func42 ?_;simp;refine CI.p (JP o) ?_;simp;simp only[Nonce.push];have hb:=Nonce.JT o;generalize Nonce.jR o=q at hb⊢;obtain⟨A,B,C,D,X,Y,Z,T,M⟩:=q;simp only[Nonce.Ou.ok]at hb;have wA:IntKind.wrap .i64 (A+1)=A+1:=wrap_i64 (by omega) (by omega);have wB:IntKind.wrap .i64 (B+1)=B+1:=wrap_i64 (by omega) (by omega);have wC:IntKind.wrap .i64 (C+1)=C+1:=wrap_i64 (by omega) (by omega);have wD:IntKind.wrap .i64 (D+1)=D+1:=wrap_i64 (by omega) (by omega);refine CI.p (LK k_) ?_;simp;by_cases hk:Nonce.lO k_=true
 ·rcases Nonce.AQ hk with rfl|rfl|rfl|rfl
  all_goals
   simp[hk]
  all_goals
   repeat' first
    | (refine aM (λh=>?_) (λh=>?_)<;>simp only[h]<;>simp[h,wA,wB,wC,wD])
    | (refine aE (λh=>?_) (λh=>?_)<;>simp only[h]<;>simp[h,wA,wB,wC,wD])
    | (refine⟨(show gH _ _ from by decide+kernel),?_⟩)
    |fail
  all_goals
   clear wA wB wC wD;first
    | (refine aA ?_ rfl;simp_all[Nonce.oQ,Nonce.Ou.fJ,Nonce.Ou.last,Nonce.Ou.set];done)
    | (refine⟨by decide+kernel,aA ?_ rfl⟩;simp_all[Nonce.oQ,Nonce.Ou.fJ,Nonce.Ou.last,Nonce.Ou.set];done)
 ·simp[hk];first|exact aA (by simp[Nonce.oQ,hk]) rfl|exact aB (by simp[Nonce.oQ,hk])
attribute [simp] Tryz.ntmps128 Tryz.results128
theorem XB (o:Nonce.Ou)(k_ n:Int):Ct Tryz.prog 128 [st (kQ o),int k_,int n] [] [] (.bC [st (kQ (Nonce.done o k_ n).1),int (Nonce.done o k_ n).2]) []:=by
 refine Ct.B Tryz.func128 ?_;simp;refine CI.p (JP o) ?_;simp;simp only[Nonce.done];generalize Nonce.jR o=q;obtain⟨A,B,C,D,X,Y,Z,T,M⟩:=q;refine CI.p (LK k_) ?_;simp;by_cases hk:Nonce.lO k_=true
 ·rcases Nonce.AQ hk with rfl|rfl|rfl|rfl
  all_goals
   simp[hk]
  all_goals
   repeat' first
    | (refine aM (λh=>?_) (λh=>?_)<;>simp only[h]<;>simp[h])
    | (refine aE (λh=>?_) (λh=>?_)<;>simp only[h]<;>simp[h])
    | (refine⟨(show gH _ _ from by decide+kernel),?_⟩)
    |fail
  all_goals
   first
    | (refine aA ?_ rfl;simp_all[Nonce.oC,Nonce.Ou.fJ,Nonce.Ou.last,Nonce.Ou.set];done)
    | (refine⟨by decide+kernel,aA ?_ rfl⟩;simp_all[Nonce.oC,Nonce.Ou.fJ,Nonce.Ou.last,Nonce.Ou.set];done)
 ·simp[hk];first|exact aA (by simp[Nonce.oC,hk]) rfl|exact aB (by simp[Nonce.oC,hk])
attribute [simp] Tryz.ntmps163 Tryz.results163
theorem Y8 (l:List G.Mark)(kf:D)(p:G.Mark->Bool)(hf:∀x∈l,bP Tryz.prog (.d kf) [st (eN x)] (bool (p x)))(hl:l.length<=9223372036854775807):Ct Tryz.prog 163 [aD (l.map eN),.d kf] [] [] (int (fC p l)) []:=by
 refine Ct.B Tryz.func163 ?_;simp;refine aJ.inv mixed rfl (ι:={k:Nat//k<=(l).length/\(l.take k).all (λx=>!p x)=true}) (λk=>[(0,aD (l.map eN)),(1,.d kf),(7,int l.length),(8,int k.1)]) (λk=>[]) 64 (λk=>(l).length-k.1) ⟨0,by omega,by simp⟩ [] (by constructor<;>simp) ?_;rintro⟨k,hk1,hi⟩ B hB;refine CI.n ?_;simp;refine aE (λh=>?_) (λh=>?_)
 ·have hk:k<(l).length:=by simpa using h
  obtain⟨r,hx,hr,hm,ht,hd,hw⟩:=bB hk;simp only[h];simp[hr,hw];refine CI.ff (hf r hm) rfl rfl rfl ?_;simp;refine aE (λhp=>?_) (λhp=>?_)<;>simp only[hp]<;>simp
  ·first|exact aA (by simp[l7 hi hr hp]) rfl|exact aB (by simp[l7 hi hr hp])
  ·refine hB _ ⟨k+1,by omega,by simp[ht,hi,hp]⟩ [] ?_ (by simp;omega);constructor<;>simp[hw,ht,hp]
 ·obtain rfl:k=(l).length:=by simp at h;omega
  simp only[h];simp;rw[bK]at hi;first|exact aA (by simp[l6 (λx hx=>by have:=cS.1 hi x hx;simpa using this)]) rfl|exact aB (by simp[l6 (λx hx=>by have:=cS.1 hi x hx;simpa using this)])
attribute [simp] Tryz.ntmps115 Tryz.results115
theorem OL (l:List G.Mark)(kf:D)(p:G.Mark->Bool)(hf:∀x∈l,bP Tryz.prog (.d kf) [st (eN x)] (bool (p x)))(hl:l.length<=9223372036854775807):Ct Tryz.prog 115 [aD (l.map eN),.d kf] [] [] (bool (l.any p)) []:=by
 refine Ct.B Tryz.func115 ?_;simp;refine CI.p (Y8 l kf p hf hl) ?_;simp;rw[tH];first|exact aA (by simp) rfl|exact aB (by simp)
attribute [simp] Tryz.ntmps69 Tryz.results69
theorem rP (n m:Int):Ct Tryz.prog 69 [int n,int m] [] [] (bool (aV n m)) []:=by
 refine Ct.B Tryz.func69 ?_;simp
 repeat' first
  | (refine aM (λh=>?_) (λh=>?_)<;>simp only[h]<;>simp[h])
  | (refine aE (λh=>?_) (λh=>?_)<;>simp only[h]<;>simp[h])
  | (refine⟨(show gH _ _ from by decide+kernel),?_⟩)
  |fail
 all_goals exact aA (by simp[*,aV]) rfl
attribute [simp] Tryz.ntmps68 Tryz.results68
theorem pJ (b:Bool)(e:Int):Ct Tryz.prog 68 [bool b,int e] [] [] (int (if b=true then 0 else e)) []:=by
 refine Ct.B Tryz.func68 ?_;simp;refine aE (λh1=>?_) (λh1=>?_)<;>simp only[h1]<;>simp
 ·first|exact aA (by simp[h1]) rfl|exact aB (by simp[h1])
 ·first|exact aA (by simp[h1]) rfl|exact aB (by simp[h1])
attribute [simp] Tryz.ntmps67 Tryz.results67
theorem MZ (l:List Int)(hl:l.length<=1000):Ct Tryz.prog 67 [aD (l.map kR)] [] [] (int ((l.find? λe=>!decide (e=0)).getD 0)) []:=by
 refine Ct.B Tryz.func67 ?_;simp;refine aJ.inv mixed rfl (ι:={k:Nat//k<=(l).length/\(l.take k).all (λe=>decide (e=0))=true}) (λk=>[(5,aD (l.map kR)),(6,int l.length),(7,int k.1)]) (λk=>[]) 64 (λk=>(l).length-k.1) ⟨0,by omega,by simp⟩ [] (by constructor<;>simp) ?_;rintro⟨k,hk1,hi⟩ B hB;refine CI.n ?_;simp;refine aE (λh=>?_) (λh=>?_)
 ·have hk:k<(l).length:=by simpa using h
  obtain⟨x,hx,hr,hm,ht,hd,hw⟩:=bB hk;simp only[h];simp[hr,hw];refine aE (λh1=>?_) (λh1=>?_)<;>simp only[h1]<;>simp<;>(try simp only[nT,nF,dT,dF]at h1)
  ·have e:(l.find? λe=>!decide (e=0))=some x:=Af hi hr h1;first|exact aA (by simp[e]) rfl|exact aB (by simp[e])
  ·refine hB _ ⟨k+1,by omega,by simp[ht,hi,h1]⟩ [] ?_ (by simp;omega);constructor<;>simp[hw,ht,h1]
 ·obtain rfl:k=(l).length:=by simp at h;omega
  simp only[h];simp;rw[bK]at hi;have e:(l.find? λe=>!decide (e=0))=none:=Ag hi;first|exact aA (by simp[e]) rfl|exact aB (by simp[e])
attribute [simp] Tryz.ntmps116 Tryz.results116
theorem RH (m:G.Mark):Ct Tryz.prog 116 [st (eN m)] [] [] (bool (!aV m.bZ 2147483647)) []:=by
 refine Ct.B Tryz.func116 ?_;simp;refine CI.p (rP m.bZ 2147483647) ?_;simp;first|exact aA (by simp) rfl|exact aB (by simp)
attribute [simp] Tryz.ntmps70 Tryz.results70
theorem HJ (f:G.Frame)(hf:eD f):Ct Tryz.prog 70 [st (bU f)] [] [] (bool (fH f)) []:=by
 refine Ct.B Tryz.func70 ?_;simp;refine CI.p (OL f.aI (jY 116) (λm=>!aV m.bZ 2147483647) (λm _=>bP.of (RH m) Tryz.call116 rfl rfl) hf.aI) ?_;simp;rw[vK];refine aM (λh1=>?_) (λh1=>?_)<;>simp only[h1]<;>simp
 ·have hl:f.aL.length<=64/\f.gone.length<=64/\f.aI.length<=64/\f.held.length<=64:=by
   simp only[Bool.not_eq_true',decide_eq_false_iff_not]at h1
   (repeat' split at h1)<;>omega
  obtain⟨l1,l2,l3,l4⟩:=hl;refine aM (λh2=>?_) (λh2=>?_)<;>simp only[h2]<;>simp
  ·refine CI.p (rP f.cA 2147483647) ?_;simp;refine aM (λh3=>?_) (λh3=>?_)<;>simp only[h3]<;>simp
   ·refine CI.p (rP f.eY 2147483647) ?_;simp;refine aM (λh4=>?_) (λh4=>?_)<;>simp only[h4]<;>simp
    ·refine CI.p (rP f.cK 2147483647) ?_;simp;refine aM (λh5=>?_) (λh5=>?_)<;>simp only[h5]<;>simp
     ·refine CI.p (rP f.err 15) ?_;simp;first|exact aA (by simp[fH,l1,l2,l3,l4,h2,h3,h4,h5]) rfl|exact aB (by simp[fH,l1,l2,l3,l4,h2,h3,h4,h5])
     ·first|exact aA (by simp[fH,h5]) rfl|exact aB (by simp[fH,h5])
    ·first|exact aA (by simp[fH,h4]) rfl|exact aB (by simp[fH,h4])
   ·first|exact aA (by simp[fH,h3]) rfl|exact aB (by simp[fH,h3])
  ·first|exact aA (by simp[fH,h2]) rfl|exact aB (by simp[fH,h2])
 ·have hl:fH f=false:=by
   rw[Bool.eq_false_iff];intro hs;obtain⟨l1,l2,l3,l4,_⟩:=qK hs;simp only[Bool.not_eq_false',dO]at h1
   (repeat' split at h1)<;>omega
  first|exact aA (by simp[hl]) rfl|exact aB (by simp[hl])
attribute [simp] Tryz.ntmps118 Tryz.results118
theorem Eg (f:G.Frame):Ct Tryz.prog 118 [st (bU f)] [] [] (st (bU (lQ f))) []:=by
 refine Ct.B Tryz.func118 ?_;simp;refine aE (λh1=>?_) (λh1=>?_)<;>simp only[h1]<;>simp<;>(try simp only[nT,nF,dT,dF]at h1)
 ·first|exact aA (by simp[lQ,h1]) rfl|exact aB (by simp[lQ,h1])
 refine aE (λh2=>?_) (λh2=>?_)<;>simp only[h2]<;>simp<;>(try simp only[nT,nF,dT,dF]at h2)
 ·first|exact aA (by simp[lQ,h1,h2]) rfl|exact aB (by simp[lQ,h1,h2])
 refine aE (λh3=>?_) (λh3=>?_)<;>simp only[h3]<;>simp<;>(try simp only[nT,nF,dT,dF]at h3)
 ·first|exact aA (by simp[lQ,h1,h2,h3]) rfl|exact aB (by simp[lQ,h1,h2,h3])
 refine aE (λh4=>?_) (λh4=>?_)<;>simp only[h4]<;>simp<;>(try simp only[nT,nF,dT,dF]at h4)
 ·first|exact aA (by simp[lQ,h1,h2,h3,h4]) rfl|exact aB (by simp[lQ,h1,h2,h3,h4])
 ·first|exact aA (by simp[lQ,h1,h2,h3,h4]) rfl|exact aB (by simp[lQ,h1,h2,h3,h4])
attribute [simp] Tryz.ntmps71 Tryz.results71
theorem HK (f:G.Frame)(hf:eD f):Ct Tryz.prog 71 [st (bU f)] [] [] (bool (mJ f)) []:=by
 refine Ct.B Tryz.func71 ?_;simp;refine CI.p (Eg f) ?_;simp;refine CI.p (SV (lQ f) {cV with type:=f.type} (Ef hf)) ?_ (ha:=by simp[cV]);simp[cV];first|exact aA (by simp[mJ,cV]) rfl|exact aB (by simp[mJ,cV])
attribute [simp] Tryz.ntmps167 Tryz.results167
theorem YO (k_:Key):Ct Tryz.prog 167 [st (aK k_)] [] [] (bool (eA k_)) []:=by
 refine Ct.B Tryz.func167 ?_;simp;refine CI.p (rP k_.kind 3) ?_;simp;refine aM (λh1=>?_) (λh1=>?_)<;>simp only[h1]<;>simp
 ·refine CI.p (wR k_.name) ?_;simp;first|exact aA (by simp[eA,h1]) rfl|exact aB (by simp[eA,h1])
 ·first|exact aA (by simp[eA,h1]) rfl|exact aB (by simp[eA,h1])
attribute [simp] Tryz.ntmps120 Tryz.results120
theorem F4 (k_:Key):Ct Tryz.prog 120 [st (aK k_)] [] [] (bool (!eA k_)) []:=by
 refine Ct.B Tryz.func120 ?_;simp;refine CI.p (YO k_) ?_;simp;first|exact aA (by simp) rfl|exact aB (by simp)
attribute [simp] Tryz.ntmps121 Tryz.results121
theorem XH (m:G.Mark):Ct Tryz.prog 121 [st (eN m)] [] [] (bool (!eA m.k)) []:=by
 refine Ct.B Tryz.func121 ?_;simp;refine CI.p (F4 m.k) ?_;simp;first|exact aA (by simp) rfl|exact aB (by simp)
attribute [simp] Tryz.ntmps72 Tryz.results72
theorem KL (f:G.Frame)(hf:eD f):Ct Tryz.prog 72 [st (bU f)] [] [] (bool (fD f)) []:=by
 refine Ct.B Tryz.func72 ?_;simp;refine CI.p (B5 f.gone (jY 120) (λk=>!eA k) (λk _=>bP.of (F4 k) Tryz.call120 rfl rfl) hf.gone) ?_;simp;rw[vK,Bool.not_not];refine aM (λh1=>?_) (λh1=>?_)<;>simp only[h1]<;>simp
 ·refine CI.p (B5 f.held (jY 120) (λk=>!eA k) (λk _=>bP.of (F4 k) Tryz.call120 rfl rfl) hf.held) ?_;simp;rw[vK,Bool.not_not];refine aM (λh2=>?_) (λh2=>?_)<;>simp only[h2]<;>simp
  ·refine CI.p (OL f.aI (jY 121) (λm=>!eA m.k) (λm _=>bP.of (XH m) Tryz.call121 rfl rfl) hf.aI) ?_;simp;rw[vK,Bool.not_not];first|exact aA (by simp[fD,h1,h2]) rfl|exact aB (by simp[fD,h1,h2])
  ·first|exact aA (by simp[fD,h1,h2]) rfl|exact aB (by simp[fD,h1,h2])
 ·first|exact aA (by simp[fD,h1]) rfl|exact aB (by simp[fD,h1])
attribute [simp] Tryz.ntmps73 Tryz.results73
theorem OY (f:G.Frame)(hf:eD f):Ct Tryz.prog 73 [st (bU f)] [] [] (int (jD f.aL)) []:=by
 refine Ct.B Tryz.func73 ?_;simp;have hl:=hf.aL.1;refine aJ.inv mixed rfl (ι:={k:Nat//k<=(f.aL).length/\(f.aL.take k).all (λr=>decide (cU r=0))=true}) (λk=>[(7,aD (f.aL.map aF)),(8,int f.aL.length),(9,int k.1)]) (λk=>[]) 64 (λk=>(f.aL).length-k.1) ⟨0,by omega,by simp⟩ [] (by constructor<;>simp) ?_;rintro⟨k,hk1,hi⟩ B hB;refine CI.n ?_;simp;refine aE (λh=>?_) (λh=>?_)
 ·have hk:k<(f.aL).length:=by simpa using h
  obtain⟨x,hx,hr,hm,ht,hd,hw⟩:=bB hk;simp only[h];simp[hr,hw];refine CI.p (DB x) ?_;simp;refine aE (λh1=>?_) (λh1=>?_)<;>simp only[h1]<;>simp<;>(try simp only[nT,nF,dT,dF]at h1)
  ·have e:=A9 hi hr h1;first|exact aA (by simp[e]) rfl|exact aB (by simp[e])
  ·refine hB _ ⟨k+1,by omega,by simp[ht,hi,h1]⟩ [] ?_ (by simp;omega);constructor<;>simp[hw,ht,h1]
 ·obtain rfl:k=(f.aL).length:=by simp at h;omega
  simp only[h];simp;rw[bK]at hi;have e:=FH hi;first|exact aA (by simp[e]) rfl|exact aB (by simp[e])
attribute [simp] Tryz.ntmps124 Tryz.results124
theorem YN (f:G.Frame)(r:aC):Ct Tryz.prog 124 [st (aF r),.d (.aT (bU f))] [] [] (bool (!decide (r.kind=f.kind))) []:=by
 refine Ct.B Tryz.func124 ?_;simp;first|exact aA (by simp) rfl|exact aB (by simp)
attribute [simp] Tryz.ntmps125 Tryz.results125
theorem YM (f:G.Frame)(k_:Key):Ct Tryz.prog 125 [st (aK k_),.d (.aT (bU f))] [] [] (bool (!decide (k_.kind=f.kind))) []:=by
 refine Ct.B Tryz.func125 ?_;simp;first|exact aA (by simp) rfl|exact aB (by simp)
attribute [simp] Tryz.ntmps74 Tryz.results74
theorem LM (f:G.Frame)(hf:eD f):Ct Tryz.prog 74 [st (bU f)] [] [] (bool (jV f)) []:=by
 refine Ct.BS Tryz.func74 mixed 1 400 ?_;simp;refine CI.s (tm:=[(1,.d (.aT (bU f)))]) (mm:=[]) (nx:=65) [] [64] (by constructor<;>simp) ?_;refine CI.n ?_;simp;refine CI.p (OK f.aL (.fn (.func 124) [] [.aT (bU f)]) (λr=>!decide (r.kind=f.kind)) (λr _=>bP.j2 (by exact YN f r) Tryz.call124 rfl rfl) hf.aL.len) ?_;simp;rw[vK,Bool.not_not];refine aM (λh1=>?_) (λh1=>?_)<;>simp only[h1]<;>simp
 ·refine CI.p (B5 f.gone (.fn (.func 125) [] [.aT (bU f)]) (λk=>!decide (k.kind=f.kind)) (λk _=>bP.j2 (by exact YM f k) Tryz.call125 rfl rfl) hf.gone) ?_;simp;rw[vK,Bool.not_not];have e:jV f=f.gone.all λk=>decide (k.kind=f.kind):=by rw[jV,h1,pF]
  rw[<-e];first|exact aA (by simp) rfl|exact aB (by simp)
 ·skip
  have e:jV f=false:=by rw[jV,h1,rM]
  first|exact aA (by simp[e]) rfl|exact aB (by simp[e])
attribute [simp] Tryz.ntmps32 Tryz.results32
theorem MQ (f:G.Frame)(hf:eD f):Ct Tryz.prog 32 [st (bU f)] [] [] (int (dE f)) []:=by
 refine Ct.B Tryz.func32 ?_;simp;refine CI.p (rP f.type 3) ?_;simp;refine aM (λh1=>?_) (λh1=>?_)<;>simp only[h1]<;>simp
 ·refine CI.p (rP f.kind 3) ?_;simp;refine CI.p (pJ (aV f.kind 3) 4) ?_;simp;refine CI.p (HJ f hf) ?_;simp;refine CI.p (pJ (fH f) 3) ?_;simp;refine CI.p (HK f hf) ?_;simp;refine CI.p (pJ (mJ f) 2) ?_;simp;refine CI.p (KL f hf) ?_;simp;refine CI.p (pJ (fD f) 5) ?_;simp;refine CI.p (OY f hf) ?_;simp;refine CI.p (LM f hf) ?_;simp;refine CI.p (pJ (jV f) 2) ?_;simp;refine CI.g [1664] [] (MZ [if aV f.kind 3=true then 0 else 4,if fH f=true then 0 else 3,if mJ f=true then 0 else 2,if fD f=true then 0 else 5,jD f.aL,if jV f=true then 0 else 2] (by simp)) ?_;simp;have e:=Ah f;rw[h1,pF]at e;rw[e];first|exact aA (by simp) rfl|exact aB (by simp)
 ·skip
  refine CI.p (pJ false 4) ?_;simp;refine CI.p (HJ f hf) ?_;simp;refine CI.p (pJ (fH f) 3) ?_;simp;refine CI.p (HK f hf) ?_;simp;refine CI.p (pJ (mJ f) 2) ?_;simp;refine CI.p (KL f hf) ?_;simp;refine CI.p (pJ (fD f) 5) ?_;simp;refine CI.p (OY f hf) ?_;simp;refine CI.p (LM f hf) ?_;simp;refine CI.p (pJ (jV f) 2) ?_;simp;refine CI.g [1664] [] (MZ [4,if fH f=true then 0 else 3,if mJ f=true then 0 else 2,if fD f=true then 0 else 5,jD f.aL,if jV f=true then 0 else 2] (by simp)) ?_;simp;have e:dE f=4:=by simp[dE,h1]
  first|exact aA (by simp[e]) rfl|exact aB (by simp[e])
attribute [simp] Tryz.ntmps10 Tryz.results10
theorem MR (f:G.Frame)(hl:f.aI.length<=1000000):Ct Tryz.prog 10 [st (bU f)] [] [] (st (bU f)) []:=by
 refine Ct.B Tryz.func10 ?_;simp;refine aJ.zU 1408 8 3 93 45 _ rfl rfl ?_;refine aJ.V (f.aI) (λk=>[(1,.ptr 64 0),(2,.ptr 65 0),(3,.ptr 66 0),(4,int k.1)]) (λk=>[(64,.cells ((bU f).map .d) 31),(65,.cells ((bU cV).map .d) 45),(66,.cells [int f.type,int f.cA,int f.kind,int f.eY,int f.cK,aD (f.aL.map aF),aD (f.gone.map aK),int f.err,.own 67,aD (f.held.map aK)] 45),(67,.grow 3 ((f.aI.take k.1).map eN) 93)]) 68 (λk hk1 B hB=>?_) (h0:=by constructor<;>simp[cV]);simp[cV];refine aE (λh=>?_) (λh=>?_)
 ·have hk:k<(f.aI).length:=by simpa using h
  obtain⟨x,hx,hr,hm,ht,hd,hw⟩:=bB hk;simp only[h];simp[hr,hw];refine⟨by omega,?_⟩;refine⟨by decide+kernel,?_⟩;exact hB hk (by constructor<;>simp[hw,ht,cV])
 ·obtain rfl:k=(f.aI).length:=by simp at h;omega
  simp only[h];simp;have e:List.take f.aI.length (List.map eN f.aI)=List.map eN f.aI:=by rw[<-sL,bK]
  first|exact aA (by simp[e]) rfl|exact aB (by simp[e])
attribute [simp] Tryz.ntmps51 Tryz.results51
theorem JF (f:G.Frame)(hl:f.aI.length<=1000000):Ct Tryz.prog 51 [st (bU f)] [] [] (st (bU f)) []:=by
 refine Ct.B Tryz.func51 ?_;simp;refine aJ.zU 1408 8 3 88 31 _ rfl rfl ?_;refine aJ.V (f.aI) (λk=>[(1,.ptr 64 0),(2,.ptr 65 0),(3,.ptr 66 0),(4,int k.1)]) (λk=>[(64,.cells ((bU f).map .d) 45),(65,.cells ((bU cV).map .d) 31),(66,.cells [int f.type,int f.cA,int f.kind,int f.eY,int f.cK,aD (f.aL.map aF),aD (f.gone.map aK),int f.err,.own 67,aD (f.held.map aK)] 31),(67,.grow 3 ((f.aI.take k.1).map eN) 88)]) 68 (λk hk1 B hB=>?_) (h0:=by constructor<;>simp[cV]);simp[cV];refine aE (λh=>?_) (λh=>?_)
 ·have hk:k<(f.aI).length:=by simpa using h
  obtain⟨x,hx,hr,hm,ht,hd,hw⟩:=bB hk;simp only[h];simp[hr,hw];refine⟨by omega,?_⟩;refine⟨by decide+kernel,?_⟩;exact hB hk (by constructor<;>simp[hw,ht,cV])
 ·obtain rfl:k=(f.aI).length:=by simp at h;omega
  simp only[h];simp;have e:List.take f.aI.length (List.map eN f.aI)=List.map eN f.aI:=by rw[<-sL,bK]
  first|exact aA (by simp[e]) rfl|exact aB (by simp[e])
attribute [simp] Tryz.ntmps30 Tryz.results30
theorem PX (v:View)(hl:v.push.aI.length<=1000000):Ct Tryz.prog 30 [st (iH v)] [] [] (st (iH v)) []:=by
 refine Ct.B Tryz.func30 ?_;simp;refine CI.p (MR v.push hl) ?_;simp;refine⟨by decide+kernel,?_⟩;first|exact aA (by simp) rfl|exact aB (by simp)
attribute [simp] Tryz.ntmps49 Tryz.results49
theorem SN (v:View)(hl:v.push.aI.length<=1000000):Ct Tryz.prog 49 [st (iH v)] [] [] (st (iH v)) []:=by
 refine Ct.B Tryz.func49 ?_;simp;refine CI.p (JF v.push hl) ?_;simp;refine⟨by decide+kernel,?_⟩;first|exact aA (by simp) rfl|exact aB (by simp)
attribute [simp] Tryz.ntmps7 Tryz.results7
theorem SA (s:bM)(hl:s.v.push.aI.length<=1000000):Ct Tryz.prog 7 [st (dB s)] [] [] (st (dB s)) []:=by
 refine Ct.B Tryz.func7 ?_;simp;refine CI.p (PX s.v hl) ?_;simp;refine⟨by decide+kernel,?_⟩;first|exact aA (by simp) rfl|exact aB (by simp)
attribute [simp] Tryz.ntmps15 Tryz.results15
theorem E3 (s:bM)(hl:s.v.push.aI.length<=1000000):Ct Tryz.prog 15 [st (dB s)] [] [] (st (dB s)) []:=by
 refine Ct.B Tryz.func15 ?_;simp;refine CI.p (SN s.v hl) ?_;simp;refine⟨by decide+kernel,?_⟩;first|exact aA (by simp) rfl|exact aB (by simp)
attribute [simp] Tryz.ntmps9 Tryz.results9
theorem C3 (s:aZ):Ct Tryz.prog 9 [st (dI s)] [] [] (st (dI s)) []:=by
 refine Ct.B Tryz.func9 ?_;simp;first|exact aA (by simp) rfl|exact aB (by simp)
attribute [simp] Tryz.ntmps5 Tryz.results5
theorem Ay (s:bM)(p:aZ)(hs:gO s)(hp:iS p):Ct Tryz.prog 5 [st (dB s),st (dI p)] [] [] (bool (n9 10 p&&oY s.v)) []:=by
 refine Ct.B Tryz.func5 ?_;simp;have hh:=hp.len;refine aJ.inv mixed rfl (ι:={k:Nat//k<=(p.aU).length/\(p.aU.take k).all oZ=true}) (λk=>[(2,.ptr 64 0),(3,.ptr 65 0),(5,int k.1)]) (λk=>[(64,.cells ((dB s).map .d) 35),(65,.cells ((dI p).map .d) 38)]) 66 (λk=>(p.aU).length-k.1) ⟨0,by omega,by simp⟩ [] (by constructor<;>simp) ?_;rintro⟨k,hk1,hi⟩ B hB;refine CI.n ?_;simp;refine aE (λh=>?_) (λh=>?_)
 ·have hk:k<(p.aU).length:=by simpa using h
  obtain⟨x,hx,hr,hm,ht,hd,hw⟩:=bB hk;simp only[h];simp[hr,hw];refine CI.p (FK x (hp.all x hm)) ?_;simp;refine aE (λh1=>?_) (λh1=>?_)<;>simp only[h1]<;>simp<;>(try simp only[nT,nF,dT,dF]at h1)
  ·have e:p.aU.all oZ=false:=by rw[gY];exact⟨x,hm,by simp[h1]⟩
   first|exact aA (by simp[n9,e]) rfl|exact aB (by simp[n9,e])
  ·refine hB _ ⟨k+1,by omega,by simp[ht,hi,h1]⟩ [] ?_ (by simp;omega);constructor<;>simp[hw,ht,h1]
 ·obtain rfl:k=(p.aU).length:=by simp at h;omega
  simp only[h];simp;rw[bK]at hi;refine CI.p (Au s.v hs.v) ?_;simp;refine aM (λh2=>?_) (λh2=>?_)<;>simp only[h2]<;>simp<;>(try simp only[nT,nF,dT,dF]at h2)
  ·by_cases c1:p.aU.length<=10
   ·have c1':(p.aU.length:Int)<=10:=by omega
    first|exact aA (by simp[n9,hi,c1,c1',h2]) rfl|exact aB (by simp[n9,hi,c1,c1',h2])
   ·have c1':¬(p.aU.length:Int)<=10:=by omega
    first|exact aA (by simp[n9,hi,c1,c1',h2]) rfl|exact aB (by simp[n9,hi,c1,c1',h2])
  ·first|exact aA (by simp[n9,hi,h2]) rfl|exact aB (by simp[n9,hi,h2])
theorem VA (a b:Nonce.Ou):(a=b)=(a.l0=b.l0/\a.l1=b.l1/\a.l2=b.l2/\a.l3=b.l3/\a.o0=b.o0/\a.o1=b.o1/\a.o2=b.o2/\a.o3=b.o3/\a.m=b.m):=by
 obtain⟨a0,a1,a2,a3,a4,a5,a6,a7,a8⟩:=a;obtain⟨b0,b1,b2,b3,b4,b5,b6,b7,b8⟩:=b;simp only[Nonce.Ou.mk.injEq]
theorem SB (a b:bM):(a=b)=(a.cA=b.cA/\a.jX=b.jX/\a.out=b.out/\a.v=b.v/\a.stuck=b.stuck/\a.at_=b.at_):=by
 obtain⟨a0,a1,a2,a3,a4,a5⟩:=a;obtain⟨b0,b1,b2,b3,b4,b5⟩:=b;simp only[bM.mk.injEq]
attribute [simp] Tryz.ntmps14 Tryz.results14
theorem DE (a b:bM)(ha:gO a):Ct Tryz.prog 14 [st (dB a),st (dB b)] [] [] (bool (decide (a=b))) []:=by
 refine Ct.B Tryz.func14 ?_;simp;refine aM (λh1=>?_) (λh1=>?_)<;>simp only[h1]<;>simp
 ·refine aM (λh2=>?_) (λh2=>?_)<;>simp only[h2]<;>simp
  ·refine aM (λh3=>?_) (λh3=>?_)<;>simp only[h3]<;>simp
   ·have h3':a.out=b.out:=by
     rw[VA];simpa[and_assoc]using h3
    refine CI.p (SU a.v b.v ha.v) ?_;simp;refine aM (λh4=>?_) (λh4=>?_)<;>simp only[h4]<;>simp
    ·refine aM (λh5=>?_) (λh5=>?_)<;>simp only[h5]<;>simp
     ·have e:decide (a=b)=decide (a.at_=b.at_):=by
       simp only[dO]at h1 h2 h4 h5;rw[CA,SB];simp[h1,h2,h3',h4,h5]
      rw[e];first|exact aA (by simp) rfl|exact aB (by simp)
     ·have e:¬a=b:=λh=>by subst h;simp at h5
      first|exact aA (by simp[e]) rfl|exact aB (by simp[e])
    ·have e:¬a=b:=λh=>by subst h;simp at h4
     first|exact aA (by simp[e]) rfl|exact aB (by simp[e])
   ·have e:¬a=b:=λh=>by subst h;simp at h3
    first|exact aA (by simp[e]) rfl|exact aB (by simp[e])
  ·have e:¬a=b:=λh=>by subst h;simp at h2
   first|exact aA (by simp[e]) rfl|exact aB (by simp[e])
 ·have e:¬a=b:=λh=>by subst h;simp at h1
  first|exact aA (by simp[e]) rfl|exact aB (by simp[e])
attribute [simp] Tryz.ntmps24 Tryz.results24
theorem D1 (e m:Int):Ct Tryz.prog 24 [int e,int m] [] [] (st (dB (hX e m))) []:=by
 refine Ct.B Tryz.func24 ?_;simp;refine CI.p (HD m) ?_;simp;have h:=NH e;first|exact aA (by simp[hX,h,j7,cV]) rfl|exact aB (by simp[hX,h,j7,cV])
attribute [simp] Tryz.ntmps104 Tryz.results104
theorem C6 (f:G.Frame)(hf:eD f):Ct Tryz.prog 104 [st (bU f)] [] [] (bool (decide (dE f=0))) []:=by
 refine Ct.B Tryz.func104 ?_;simp;refine CI.p (MQ f hf) ?_;simp;first|exact aA (by simp) rfl|exact aB (by simp)
attribute [simp] Tryz.ntmps53 Tryz.results53
theorem SM (v:View)(hv:v.held.length<=9223372036854775807)(hl:v.aI.length<=1000000):Ct Tryz.prog 53 [st (iH v)] [] [] (bool (lJ v)) []:=by
 refine Ct.B Tryz.func53 ?_;simp;refine CI.p (XU v.aI hl) ?_;simp;refine CI.p (C6 (gM v) (L5 v (by omega))) ?_ (ha:=by simp[gM]);simp[gM];refine aM (λh1=>?_) (λh1=>?_)<;>simp only[h1]<;>simp
 ·refine CI.p (C6 (jE v) (NL hv)) ?_ (ha:=by simp[jE]);simp[jE];first|exact aA (by simp[lJ,h1,gM,jE]) rfl|exact aB (by simp[lJ,h1,gM,jE])
 ·first|exact aA (by simp[lJ,h1,gM]) rfl|exact aB (by simp[lJ,h1,gM])
attribute [simp] Tryz.ntmps54 Tryz.results54
theorem PQ (s:bM)(hs:eD s.v.push):Ct Tryz.prog 54 [st (dB s)] [] [] (bool (dH s)) []:=by
 refine Ct.B Tryz.func54 ?_;simp;refine aM (λh1=>?_) (λh1=>?_)<;>simp only[h1]<;>simp
 ·have h1':s.jX=false:=by simpa using h1
  first|exact aA (by simp[dH,h1']) rfl|exact aB (by simp[dH,h1'])
 have h1':s.jX=true:=by simpa using h1
 refine CI.p (C6 s.v.push hs) ?_;simp;refine aM (λh2=>?_) (λh2=>?_)<;>simp only[h2]<;>simp
 ·have h2':¬dE s.v.push=0:=by simpa using h2
  first|exact aA (by simp[dH,h2']) rfl|exact aB (by simp[dH,h2'])
 have h2':dE s.v.push=0:=by simpa using h2
 refine aM (λh3=>?_) (λh3=>?_)<;>simp only[h3]<;>simp
 ·have h3':¬s.v.push.type=1:=by simpa using h3
  first|exact aA (by simp[dH,h3']) rfl|exact aB (by simp[dH,h3'])
 have h3':s.v.push.type=1:=by simpa using h3
 refine aE (λh4=>?_) (λh4=>?_)<;>simp only[h4]<;>simp
 ·have h4':¬s.v.push.cA=s.cA:=by simpa using h4
  first|exact aA (by simp[dH,h4']) rfl|exact aB (by simp[dH,h4'])
 have h4':s.v.push.cA=s.cA:=by simpa using h4
 rcases I9 h2' with hk|hk|hk|hk
 ·simp[hk];refine aM (λh5=>?_) (λh5=>?_)<;>simp only[h5]<;>simp[hk]
  ·first|exact aA (by simp[dH,h1',h2',h3',h4',hk,h5,Nonce.Ou.fJ,Nonce.Ou.last]) rfl|exact aB (by simp[dH,h1',h2',h3',h4',hk,h5,Nonce.Ou.fJ,Nonce.Ou.last])
  ·first|exact aA (by simp[dH,h1',h2',h3',h4',hk,h5,Nonce.Ou.fJ,Nonce.Ou.last]) rfl|exact aB (by simp[dH,h1',h2',h3',h4',hk,h5,Nonce.Ou.fJ,Nonce.Ou.last])
 ·simp[hk];refine aM (λh5=>?_) (λh5=>?_)<;>simp only[h5]<;>simp[hk]
  ·first|exact aA (by simp[dH,h1',h2',h3',h4',hk,h5,Nonce.Ou.fJ,Nonce.Ou.last]) rfl|exact aB (by simp[dH,h1',h2',h3',h4',hk,h5,Nonce.Ou.fJ,Nonce.Ou.last])
  ·first|exact aA (by simp[dH,h1',h2',h3',h4',hk,h5,Nonce.Ou.fJ,Nonce.Ou.last]) rfl|exact aB (by simp[dH,h1',h2',h3',h4',hk,h5,Nonce.Ou.fJ,Nonce.Ou.last])
 ·simp[hk];refine aM (λh5=>?_) (λh5=>?_)<;>simp only[h5]<;>simp[hk]
  ·first|exact aA (by simp[dH,h1',h2',h3',h4',hk,h5,Nonce.Ou.fJ,Nonce.Ou.last]) rfl|exact aB (by simp[dH,h1',h2',h3',h4',hk,h5,Nonce.Ou.fJ,Nonce.Ou.last])
  ·first|exact aA (by simp[dH,h1',h2',h3',h4',hk,h5,Nonce.Ou.fJ,Nonce.Ou.last]) rfl|exact aB (by simp[dH,h1',h2',h3',h4',hk,h5,Nonce.Ou.fJ,Nonce.Ou.last])
 ·simp[hk];refine aM (λh5=>?_) (λh5=>?_)<;>simp only[h5]<;>simp[hk]
  ·first|exact aA (by simp[dH,h1',h2',h3',h4',hk,h5,Nonce.Ou.fJ,Nonce.Ou.last]) rfl|exact aB (by simp[dH,h1',h2',h3',h4',hk,h5,Nonce.Ou.fJ,Nonce.Ou.last])
  ·first|exact aA (by simp[dH,h1',h2',h3',h4',hk,h5,Nonce.Ou.fJ,Nonce.Ou.last]) rfl|exact aB (by simp[dH,h1',h2',h3',h4',hk,h5,Nonce.Ou.fJ,Nonce.Ou.last])
attribute [simp] Tryz.ntmps18 Tryz.results18
theorem HX (s:bM)(hd:s.v.held.length<=9223372036854775807)(hs:eD s.v.push)(hl:s.v.aI.length<=1000000):Ct Tryz.prog 18 [st (dB s)] [] [] (bool (cF s)) []:=by
 refine Ct.B Tryz.func18 ?_;simp;refine aM (λh1=>?_) (λh1=>?_)<;>simp only[h1]<;>simp
 ·skip
  refine aM (λh2=>?_) (λh2=>?_)<;>simp only[h2]<;>simp
  ·skip
   refine aM (λh3=>?_) (λh3=>?_)<;>simp only[h3]<;>simp
   ·skip
    refine aM (λh4=>?_) (λh4=>?_)<;>simp only[h4]<;>simp
    ·skip
     refine aM (λh5=>?_) (λh5=>?_)<;>simp only[h5]<;>simp
     ·skip
      refine CI.p (MC s.out) ?_;simp;refine aM (λh6=>?_) (λh6=>?_)<;>simp only[h6]<;>simp
      ·skip
       refine CI.p (SM s.v hd hl) ?_;simp;refine aM (λh7=>?_) (λh7=>?_)<;>simp only[h7]<;>simp
       ·skip
        refine aM (λh8=>?_) (λh8=>?_)<;>simp only[h8]<;>simp
        ·first|exact aA (by simp[cF,eL,aV,h1,h2,h3,h4,h5,h6,h7,h8]) rfl|exact aB (by simp[cF,eL,aV,h1,h2,h3,h4,h5,h6,h7,h8])
        ·refine CI.p (PQ s hs) ?_;simp;first|exact aA (by simp[cF,eL,aV,h1,h2,h3,h4,h5,h6,h7,h8]) rfl|exact aB (by simp[cF,eL,aV,h1,h2,h3,h4,h5,h6,h7,h8])
       ·first|exact aA (by simp[cF,h7]) rfl|exact aB (by simp[cF,h7])
      ·first|exact aA (by simp[cF,h6]) rfl|exact aB (by simp[cF,h6])
     ·first|exact aA (by simp[cF,eL,aV,h5]) rfl|exact aB (by simp[cF,eL,aV,h5])
    ·first|exact aA (by simp[cF,eL,aV,h4]) rfl|exact aB (by simp[cF,eL,aV,h4])
   ·first|exact aA (by simp[cF,eL,aV,h3]) rfl|exact aB (by simp[cF,eL,aV,h3])
  ·first|exact aA (by simp[cF,eL,aV,h2]) rfl|exact aB (by simp[cF,eL,aV,h2])
 ·first|exact aA (by simp[cF,eL,aV,h1]) rfl|exact aB (by simp[cF,eL,aV,h1])
theorem HY (s:bM)(hs:gO s)(hl:s.v.aI.length<=1000000):Ct Tryz.prog 18 [st (dB s)] [] [] (bool (cF s)) []:=HX s hs.v.held hs.v.push hl
attribute [simp] Tryz.ntmps31 Tryz.results31
theorem HH (s:bM)(hd:s.v.held.length<=9223372036854775807)(hs:eD s.v.push)(hl:s.v.aI.length<=1000000):Ct Tryz.prog 31 [st (dB s)] [] [] (st (dB (cW s))) []:=by
 refine Ct.B Tryz.func31 ?_;simp;refine CI.p (HX s hd hs hl) ?_;simp;refine aE (λh1=>?_) (λh1=>?_)<;>simp only[h1]<;>simp
 ·have h1':cF s=false:=by simpa using h1
  refine CI.p (D1 s.cA s.out.m) ?_;simp;first|exact aA (by simp[cW,h1']) rfl|exact aB (by simp[cW,h1'])
 ·have h1':cF s=true:=by simpa using h1
  first|exact aA (by simp[cW,h1']) rfl|exact aB (by simp[cW,h1'])
theorem C8 (s:bM)(hs:gO s)(hl:s.v.aI.length<=1000000):Ct Tryz.prog 31 [st (dB s)] [] [] (st (dB (cW s))) []:=HH s hs.v.held hs.v.push hl
attribute [simp] Tryz.ntmps75 Tryz.results75
theorem ZI (s:bM)(p:aZ)(f:G.Frame)(hp:iS p)(hl:f.aI.length<=1000):Ct Tryz.prog 75 [st (dB s),st (dI p),st (bU f)] [] [] (.bC [st (dB (kS s p f).1),int (kS s p f).2]) []:=by
 refine Ct.B Tryz.func75 ?_;simp;refine aE (λh1=>?_) (λh1=>?_)<;>simp only[h1]<;>simp
 ·first|exact aA (by simp[kS,h1]) rfl|exact aB (by simp[kS,h1])
 refine CI.p (YK p f.aI hp hl) ?_;simp;have hk:=w8 p f.aI;refine aE (λh2=>?_) (λh2=>?_)<;>simp only[h2]<;>simp<;>(try simp only[nT,nF,dT,dF]at h2)
 ·refine CI.cc [] (LP (jU p f.aI) (by omega)) ?_;simp;first|exact aA (by simp[kS,nH,h1,h2]) rfl|exact aB (by simp[kS,nH,h1,h2])
 ·first|exact aA (by simp[kS,nH,h1,h2]) rfl|exact aB (by simp[kS,nH,h1,h2])
attribute [simp] Tryz.ntmps76 Tryz.results76
theorem UJ (s:bM)(p:aZ)(f:G.Frame):Ct Tryz.prog 76 [st (dB s),st (dI p),st (bU f)] [] [] (.bC [st (dB s),int 2]) []:=by
 refine Ct.B Tryz.func76 ?_;simp;first|exact aA (by simp) rfl|exact aB (by simp)
attribute [simp] Tryz.ntmps78 Tryz.results78
theorem Bx (s:bM)(p:aZ)(f:G.Frame):Ct Tryz.prog 78 [st (dB s),st (dI p),st (bU f)] [] [] (.bC [st (dB (pZ s f).1),int (pZ s f).2]) []:=by
 refine Ct.B Tryz.func78 ?_;simp;refine CI.p (FQ s.v f.cK f.held) ?_;simp;first|exact aA (by simp[pZ]) rfl|exact aB (by simp[pZ])
attribute [simp] Tryz.ntmps77 Tryz.results77
theorem Gp (s:bM)(p:aZ)(f:G.Frame)(hl:s.v.open_=true->s.v.aI.length+s.v.push.aL.length<=1000000/\s.v.push.gone.length<=9223372036854775807)(hp:p.aU.length<=1000000):Ct Tryz.prog 77 [st (dB s),st (dI p),st (bU f)] [] [] (.bC [st (dB (fT s p f).1),int (fT s p f).2]) []:=by
 refine Ct.B Tryz.func77 ?_;simp;refine CI.p (XB s.out f.kind f.eY) ?_;simp;refine aE (λh1=>?_) (λh1=>?_)<;>simp only[h1]<;>simp<;>(try simp only[nT,nF,dT,dF]at h1)
 ·first|exact aA (by simp[fT,h1]) rfl|exact aB (by simp[fT,h1])
 refine aE (λh2=>?_) (λh2=>?_)<;>simp only[h2]<;>simp
 ·have h2':s.v.open_=false:=by simpa using h2
  first|exact aA (by simp[fT,h1,h2']) rfl|exact aB (by simp[fT,h1,h2'])
 have h2':s.v.open_=true:=by simpa using h2
 refine CI.p (Fy s.v f (hl h2').1 (hl h2').2) ?_;simp;refine aE (λh3=>?_) (λh3=>?_)<;>simp only[h3]<;>simp
 ·first|exact aA (by simp[fT,h1,h2',h3]) rfl|exact aB (by simp[fT,h1,h2',h3])
 refine aE (λh4=>?_) (λh4=>?_)<;>simp only[h4]<;>simp<;>(try simp only[nT,nF,dT,dF]at h4)
 ·have h4':64<(dG s.v f).aI.length:=by omega
  first|exact aA (by simp[fT,h1,h2',h3,h4']) rfl|exact aB (by simp[fT,h1,h2',h3,h4'])
 have h4':¬64<(dG s.v f).aI.length:=by omega
 refine CI.p (DX p hp) ?_;simp;first|exact aA (by simp[fT,h1,h2',h3,h4',lY]) rfl|exact aB (by simp[fT,h1,h2',h3,h4',lY])
attribute [simp] Tryz.ntmps33 Tryz.results33
theorem Ed :Ct Tryz.prog 33 [int 0] [] [] (.d (jY 75)) []:=by
 refine Ct.B Tryz.func33 ?_;simp;first|exact aA (by simp) rfl|exact aB (by simp)
theorem Ec :Ct Tryz.prog 33 [int 1] [] [] (.d (jY 76)) []:=by
 refine Ct.B Tryz.func33 ?_;simp;first|exact aA (by simp) rfl|exact aB (by simp)
theorem Eb :Ct Tryz.prog 33 [int 2] [] [] (.d (jY 77)) []:=by
 refine Ct.B Tryz.func33 ?_;simp;first|exact aA (by simp) rfl|exact aB (by simp)
theorem Ea :Ct Tryz.prog 33 [int 3] [] [] (.d (jY 78)) []:=by
 refine Ct.B Tryz.func33 ?_;simp;first|exact aA (by simp) rfl|exact aB (by simp)
attribute [simp] Tryz.ntmps8 Tryz.results8
theorem ZQ (s:bM)(p:aZ)(f:G.Frame)(hd:s.v.held.length<=9223372036854775807)(hs:eD s.v.push)(hl:s.v.aI.length<=1000000)(hf:eD f)(hp:iS p)(hpl:p.aU.length<=1000000):Ct Tryz.prog 8 [st (dB s),st (dI p),st (bU f)] [] [] (.bC [st (dB (handle s p f).1),int (handle s p f).2]) []:=by
 refine Ct.B Tryz.func8 ?_;simp;refine CI.p (HH s hd hs hl) ?_;simp;have hq0:=sV s;have hh:handle s p f=eK (cW s) p f:=rfl;rw[hh];clear hh;generalize cW s=q at hq0⊢;have S:=pK.1 hq0;refine CI.p (MQ f hf) ?_;simp;refine aE (λh1=>?_) (λh1=>?_)<;>simp only[h1]<;>simp<;>(try simp only[nT,nF,dT,dF]at h1)
 ·first|exact aA (by simp[eK,h1]) rfl|exact aB (by simp[eK,h1])
 refine aE (λh2=>?_) (λh2=>?_)<;>simp only[h2]<;>simp<;>(try simp only[nT,nF,dT,dF]at h2)
 ·first|exact aA (by simp[eK,h1,h2]) rfl|exact aB (by simp[eK,h1,h2])
 have F:=n4.1 h1;have L:=qK F.small;have hS:=S.hl;rcases I7 h1 with h3|h3|h3|h3
 ·refine CI.p Ed ?_ (ha:=by simp[h3]);simp[h3];refine CI.ff (bP.of (ZI q p f hp (by omega)) Tryz.call75 rfl rfl) rfl rfl rfl ?_ (ha:=by simp[h3]);simp[h3];refine⟨by decide+kernel,?_⟩;first|exact aA (by simp[eK,h1,h2,h3]) rfl|exact aB (by simp[eK,h1,h2,h3])
 ·refine CI.p Ec ?_ (ha:=by simp[h3]);simp[h3];refine CI.ff (bP.of (UJ q p f) Tryz.call76 rfl rfl) rfl rfl rfl ?_ (ha:=by simp[h3]);simp[h3];refine⟨by decide+kernel,?_⟩;first|exact aA (by simp[eK,h1,h2,h3]) rfl|exact aB (by simp[eK,h1,h2,h3])
 ·refine CI.p Eb ?_ (ha:=by simp[h3]);simp[h3];refine CI.ff (bP.of (Gp q p f (JV S) hpl) Tryz.call77 rfl rfl) rfl rfl rfl ?_ (ha:=by simp[h3]);simp[h3];refine⟨by decide+kernel,?_⟩;first|exact aA (by simp[eK,h1,h2,h3]) rfl|exact aB (by simp[eK,h1,h2,h3])
 ·refine CI.p Ea ?_ (ha:=by simp[h3]);simp[h3];refine CI.ff (bP.of (Bx q p f) Tryz.call78 rfl rfl) rfl rfl rfl ?_ (ha:=by simp[h3]);simp[h3];refine⟨by decide+kernel,?_⟩;first|exact aA (by simp[eK,h1,h2,h3]) rfl|exact aB (by simp[eK,h1,h2,h3])
theorem L9 (s:bM)(p:aZ)(f:G.Frame)(hs:gO s)(hl:s.v.aI.length<=1000000)(hf:eD f)(hp:iS p)(hpl:p.aU.length<=1000000):Ct Tryz.prog 8 [st (dB s),st (dI p),st (bU f)] [] [] (.bC [st (dB (handle s p f).1),int (handle s p f).2]) []:=ZQ s p f hs.v.held hs.v.push hl hf hp hpl
end Go.Proofs.YtelooagbkmpdpaaGreatDoor
