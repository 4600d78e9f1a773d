/- LAYERS 9, 10, 13, 20, walked -/
import Derived.Test.YtobcmagefgdgdaaGreatDoorWe
import Derived.Test.YtobcmagefgdgdaaGreatDoorAs
import Derived.Test.YtobcmagefgdgdaaGreatDoorPs
set_option linter.unusedSimpArgs false
set_option linter.unusedVariables false
set_option maxRecDepth 100000
set_option maxHeartbeats 8000000
section
open Go.RowKit
namespace Go.Proofs.YtobcmagefgdgdaaGreatDoor
open Go.AI Go.G Tryz
attribute [simp] ntmps83 results83 ntmps157 results157
abbrev FT :Value:=.iface 586 (.agg #[.pointer (some ⟨4,354,none⟩)])
def i6 :(Nat->Prop)->World->Prop:=λI w=>I 0/\w.cell? ⟨0,0,none⟩=some FT
theorem xY :Ad i6:=λI I' w w' h h1 h2=>⟨h2 0 h.1,(cell_of_heap (h1 0 h.1)).trans h.2⟩
set_option maxHeartbeats 4000000 in
theorem Vu (b:Nat)(e:Int)(w:World)(hg:w.cell? ⟨0,0,none⟩=some FT)(hc:w.cell? ⟨b,0,none⟩=some (.int .i64 e)):
  Calls prog 222 #[.iface 436 (.pointer (some ⟨b,0,none⟩))] w λev w'=>ev=.returned (.int .i64 e)/\Below w.heap.size w w'/\w.drawn<=w'.drawn:=by
 have hlt:0<w.heap.size:=by
  rcases y9 0 w.heap.size with h|h
  ·exact h
  ·simp[World.cell?,T0 h]at hg
 have hbl:b<w.heap.size:=by
  rcases y9 b w.heap.size with h|h
  ·exact h
  ·simp[World.cell?,T0 h]at hc
 have hgA:(w.alloc (.cells #[.pointer none] 436)).cell? ⟨0,0,none⟩=some FT:=by
  rw[GA _ _ ⟨0,0,none⟩ hlt];exact hg
 have htA:(w.alloc (.cells #[.pointer none] 436)).cell? ⟨w.heap.size,0,none⟩=some (.pointer none):=by simp
 have hfA:(w.alloc (.cells #[.pointer none] 436)).frozen? ⟨w.heap.size,0,none⟩=false:=by simp
 have hAs:Calls prog 305 #[.iface 436 (.pointer (some ⟨b,0,none⟩)),.iface 438 (.pointer (some ⟨w.heap.size,0,none⟩))] (w.alloc (.cells #[.pointer none] 436)) λev w'=>
   ev=.returned (.bool true)/\w'.cell? ⟨w.heap.size,0,none⟩=some (.pointer (some ⟨b,0,none⟩))/\w'.cell? ⟨b,0,none⟩=some (.int .i64 e)/\Below w.heap.size w w'/\w.drawn<=w'.drawn:=by
  refine(zkK _ _ (.pointer none) _ hgA htA hfA).mono ?_;rintro ev w' ⟨rfl,rfl⟩;have hB:Below w.heap.size w (((((w.alloc (.cells #[.pointer none] 436)).alloc (.cells #[.pointer (some ⟨w.heap.size,0,none⟩)] 438)).alloc (.cells #[.pointer (some ⟨4,438,none⟩),.pointer (some ⟨(w.alloc (.cells #[.pointer none] 436)).heap.size,0,none⟩),.int .u64 150] 501)).alloc (.cells #[.pointer (some ⟨4,438,none⟩),.pointer (some ⟨(w.alloc (.cells #[.pointer none] 436)).heap.size,0,none⟩),.int .u64 150] 501)).alloc (.cells #[.pointer (some ⟨b,0,none⟩)] 436)):=
   (((((Below.refl _ w).alloc (bY _) _).alloc (by simp) _).alloc (by simp;omega) _).alloc (by simp;omega) _).alloc (by simp;omega) _
  refine⟨rfl,?_,?_,hB.setCell (p:=⟨w.heap.size,0,none⟩) (by simp) _,bY _⟩
  ·refine(wS (SI (t:=436) (v:=.pointer none) ?_ _)).1;refine(Below.heap_alloc _ _ _ (by simp;omega)).trans ?_;refine(Below.heap_alloc _ _ _ (by simp;omega)).trans ?_;refine(Below.heap_alloc _ _ _ (by simp;omega)).trans ?_;refine(Below.heap_alloc _ _ _ (by simp)).trans ?_;exact World.alloc_heap_new w _
  ·have h1:=hB.block b hbl;refine(cell_of_heap (a:=⟨b,0,none⟩) ((x6 _ (show b≠w.heap.size by omega)).trans h1)).trans hc
 go_enter func222,ntmps222
 go_wp2_with (go_at_call 305;refine hAs.mono ?_;rintro ev w' ⟨rfl,c1,c2,c3,c4⟩)
 go_ret
 exact⟨rfl,c3,c4⟩
theorem Vt (w:World):Calls prog 222 #[.nilIface] w λev w'=>ev=.returned (.int .i64 0)/\Below w.heap.size w w'/\w.drawn<=w'.drawn:=by
 go_enter func222,ntmps222
 go_wp2_with (go_at_call 305;refine(zkJ _ _).mono ?_;rintro ev w' ⟨rfl,rfl⟩)
 go_ret
 exact⟨rfl,(Below.refl _ w).alloc (bY _) _,bY _⟩
theorem Vs :eL i6 prog 222 [.d (.v .nilIface)] [] [] (int 0) []:=by
 refine eL.Jw λσ I w vs hG hI hl ha hm=>?_
 match vs,hl with
 |[v],_=>
  have h0:=ha 0 _ v rfl rfl;obtain rfl:=eF h0;exact Vt w
theorem Vr (e:Int)(cs:List AV)(T:TypeId):eL i6 prog 222 [.gB 436 (.ptr 0 0)] [(0,.cells (int e::cs) T)] [] (int e) []:=by
 refine eL.Jw λσ I w vs hG hI hl ha hm=>?_
 match vs,hl with
 |[v],_=>
  have h0:=ha 0 _ v rfl rfl;obtain⟨y,hy,hb,hn⟩:=hm.blk 0 _ rfl;cases h0 with
  |gB h0=>cases h0 with
   | @ptr _ _ n h0=>
     rw[h0]at hy;cases hy;cases hb with
     | @cells _ _ _ arr c1 c2 c3=>
       refine Vu n e w hG.2 ?_;have hlt:0<arr.size:=by rw[c2];simp
       have e0:arr[0]? =some arr[0]:=uQ hlt;have:=c3 0 _ arr[0] rfl e0;have e1:arr[0]=.int .i64 e:=by
        generalize arr[0]=z at this;exact eF this
       simp[World.cell?,c1,e0,e1]
theorem UK (s:aW):¬(fN s).bA=[]:=by
 unfold fN;split
 ·simp[fZ]
 ·rename_i h;simpa using h
theorem UL {s:aW}(hl:s.bA.length<=1000000):(fN s).bA.length<=1000000:=by
 unfold fN;split
 ·simp[fZ]
 ·exact hl
theorem DG (s:aW)(hl:s.bA.length<=1000000):C0 83 [st (eW s)] (.aU [int ((fN s).bA.length-1),aB ((dQ (fN s)).map aF)]):=by
 refine Ct.B func83 ?_;simp;refine CI.p (UJ s) ?_;simp;have h1:=UK s;have h2:=UL hl;have h0:0<(fN s).bA.length:=vS.2 h1;have hw:=wz (((fN s).bA.length:Int)-1);refine CI.p (X2 (fN s) h1 h2) ?_;simp;refine dr ?_;exact aA (by simp[hw])
theorem zlw (s:aW)(aD:List aC)(gone:List Key)(hl:s.bA.length<=1000000)(hok:cL (dQ (fN s)))(hn:(dQ (fN s)).length+aD.length<=1000000)(hg:gone.length<=9223372036854775807):eL i6 prog 157 [st (eW s),aB (aD.map aF),aB (gone.map aQ)] [] [] (.aU [st (eW (oY (fN s) aD gone)),int (oZ (fN s) aD gone)]) []:=by
 refine eL.B xY func157 ?_;simp;refine CI.p (UJ s) ?_;simp;have h1:=UK s;have h2:=UL hl;have hp:=zc1 (fN s) aD gone h1 h2 hok hn hg;by_cases he:oZ (fN s) aD gone=0
 ·simp only[vL,vK,aZ he]at hp;refine CI.p hp ?_;simp;refine CI.j [] Vs ?_;simp;refine dr ?_;exact aA (by simp[he])
 ·simp only[vL,vK,aT he]at hp;refine CI.cc [] hp ?_;simp;refine CI.j [512] (Vr (oZ (fN s) aD gone) [int (fN s).bA.length] 440) ?_;simp;refine dr ?_;exact aA (by simp[he])
end Go.Proofs.YtobcmagefgdgdaaGreatDoor
end
namespace Go.Proofs.YtobcmagefgdgdaaGreatDoor
open Go.AI Go.G Tryz
attribute [simp] ntmps156 results156 ntmps97 results97 ntmps316 results316 ntmps293 results293 ntmps213 results213 ntmps392 results392 ntmps307 results307 ntmps421 results421
abbrev wJ (i:Nonce.Nn):List D:=[iD i.l0,iD i.l1,iD i.l2,iD i.l3,iD i.m]
theorem Rl (n:Int):C0 156 [int n] (int (Nonce.bnd n)):=by
 refine Ct.B func156 ?_;simp;have e:=Rm n;exact aA (by simp[e])
theorem N7 (n:Int):C0 97 [int n] (.aU [st (rZ (Nonce.A6 n)),st (wJ (Nonce.uS n))]):=by
 refine Ct.B func97 ?_;simp;refine CI.p (Rl n) ?_;simp;exact aA (by simp[Nonce.A6,Nonce.uS])
theorem X5 (k_:Int):C0 316 [int k_] (bool (Nonce.iR k_)):=by
 refine Ct.B func316 ?_;simp;refine bM (λh1=>?_) (λh1=>?_)<;>simp only[h1]<;>simp
 ·exact aA (by simp[Nonce.iR,h1])
 ·exact aA (by simp[Nonce.iR,h1])
theorem U3 (i:Nonce.Nn):C0 293 [st (wJ i)] (bool (Nonce.kV i)):=by
 refine Ct.B func293 ?_;simp;refine aH.un ?_;simp;refine dr ?_;refine aH.un ?_;simp;refine dr ?_;refine aH.un ?_;simp;refine dr ?_;refine aH.un ?_;simp;refine dr ?_;refine aH.un ?_;simp;refine bM (λh=>?_) (λh=>?_)<;>simp only[h]<;>simp
 ·refine CI.p (Rl i.m) ?_;simp;have e:=Zd i h;exact aK (by simp[e])
 ·have e:=Ze i h;exact aK (by simp[e])
theorem Oj (o:Nonce.Ou):C0 213 [st (rZ o)] (bool (Nonce.kF o)):=by
 refine Ct.B func213 ?_;simp;obtain⟨a,b,c,d,x,y,z,t,m⟩:=o;refine aH.un ?_;simp
 repeat' first
  | (refine bM (λh=>?_) (λh=>?_)<;>simp only[h]<;>simp[h])
  | (refine bQ (λh=>?_) (λh=>?_)<;>simp only[h]<;>simp[h])
  | (refine⟨(show jG _ _ from by decide+kernel),?_⟩)
  |fail
 all_goals(first| (exact aA (by simp[Nonce.kF, *]))| (refine dr ?_;exact aA (by simp[Nonce.kF, *]))|skip)
 all_goals
  refine aH.un ?_;simp
 repeat' first
  | (refine bM (λh=>?_) (λh=>?_)<;>simp only[h]<;>simp[h])
  | (refine bQ (λh=>?_) (λh=>?_)<;>simp only[h]<;>simp[h])
  | (refine⟨(show jG _ _ from by decide+kernel),?_⟩)
  |fail
 all_goals(first| (exact aA (by simp[Nonce.kF, *]))| (refine dr ?_;exact aA (by simp[Nonce.kF, *]))|skip)
 all_goals
  refine aH.un ?_;simp
 repeat' first
  | (refine bM (λh=>?_) (λh=>?_)<;>simp only[h]<;>simp[h])
  | (refine bQ (λh=>?_) (λh=>?_)<;>simp only[h]<;>simp[h])
  | (refine⟨(show jG _ _ from by decide+kernel),?_⟩)
  |fail
 all_goals(first| (exact aA (by simp[Nonce.kF, *]))| (refine dr ?_;exact aA (by simp[Nonce.kF, *]))|skip)
 all_goals
  refine aH.un ?_;simp
 repeat' first
  | (refine bM (λh=>?_) (λh=>?_)<;>simp only[h]<;>simp[h])
  | (refine bQ (λh=>?_) (λh=>?_)<;>simp only[h]<;>simp[h])
  | (refine⟨(show jG _ _ from by decide+kernel),?_⟩)
  |fail
 all_goals(first| (exact aA (by simp[Nonce.kF, *]))| (refine dr ?_;exact aA (by simp[Nonce.kF, *]))|skip)
 all_goals
  refine aH.un ?_;simp
 all_goals
  refine CI.p (U3 ⟨a,b,c,d,m⟩) ?_;simp
 all_goals(first| (exact aA (by simp[Nonce.kF,Nonce.Ou.rR, *]))| (refine dr ?_;exact aA (by simp[Nonce.kF,Nonce.Ou.rR, *])))
theorem Ik (o:Nonce.Ou):C0 392 [st (rZ o)] (st (rZ (Nonce.sZ o))):=by
 refine Ct.B func392 ?_;simp;refine CI.p (Oj o) ?_;simp;refine bQ (λh1=>?_) (λh1=>?_)<;>simp only[h1]<;>simp
 ·exact aA (by simp[Nonce.sZ,h1])
 ·refine CI.p (N7 o.m) ?_;simp;exact aA (by simp[Nonce.sZ,h1])
theorem Kj (o:Nonce.Ou)(k_:Int):C0 307 [st (rZ o),int k_] (.aU [st (rZ (Nonce.push o k_).1),int (Nonce.push o k_).2.1,int (Nonce.push o k_).2.2]):=by
 refine Ct.B func307 ?_;simp;refine CI.p (Ik o) ?_;simp;simp only[Nonce.push];have hb:=Nonce.Ip o;generalize Nonce.sZ o=q at hb⊢;obtain⟨A,B,C,D,X,Y,Z,T,M⟩:=q;simp only[Nonce.Ou.ok]at hb;have wA:=wz (A+1);have wB:=wz (B+1);have wC:=wz (C+1);have wD:=wz (D+1);refine CI.p (X5 k_) ?_;simp;by_cases hk:Nonce.iR k_=true
 ·rcases Nonce.IC hk with rfl|rfl|rfl|rfl
  all_goals
   simp[hk]
  all_goals
   repeat' first
    | (refine bM (λh=>?_) (λh=>?_)<;>simp only[h]<;>simp[h,wA,wB,wC,wD])
    | (refine bQ (λh=>?_) (λh=>?_)<;>simp only[h]<;>simp[h,wA,wB,wC,wD])
    | (refine⟨(show jG _ _ from by decide+kernel),?_⟩)
    |fail
  all_goals
   clear wA wB wC wD;first
    | (refine aA ?_ rfl;simp_all[Nonce.BB,Nonce.Ou.nS,Nonce.Ou.last,Nonce.Ou.set];done)
    | (refine⟨by decide+kernel,aA ?_ rfl⟩;simp_all[Nonce.BB,Nonce.Ou.nS,Nonce.Ou.last,Nonce.Ou.set];done)
 ·simp[hk];exact aA (by simp[Nonce.BB,hk])
theorem ze7 (o:Nonce.Ou)(k_ n:Int):C0 421 [st (rZ o),int k_,int n] (.aU [st (rZ (Nonce.done o k_ n).1),int (Nonce.done o k_ n).2]):=by
 refine Ct.B func421 ?_;simp;refine CI.p (Ik o) ?_;simp;simp only[Nonce.done];generalize Nonce.sZ o=q;obtain⟨A,B,C,D,X,Y,Z,T,M⟩:=q;refine CI.p (X5 k_) ?_;simp;by_cases hk:Nonce.iR k_=true
 ·rcases Nonce.IC hk with rfl|rfl|rfl|rfl
  all_goals
   simp[hk]
  all_goals
   repeat' first
    | (refine bM (λh=>?_) (λh=>?_)<;>simp only[h]<;>simp[h])
    | (refine bQ (λh=>?_) (λh=>?_)<;>simp only[h]<;>simp[h])
    | (refine⟨(show jG _ _ from by decide+kernel),?_⟩)
    |fail
  all_goals
   first
    | (refine aA ?_ rfl;simp_all[Nonce.CA,Nonce.Ou.nS,Nonce.Ou.last,Nonce.Ou.set];done)
    | (refine⟨by decide+kernel,aA ?_ rfl⟩;simp_all[Nonce.CA,Nonce.Ou.nS,Nonce.Ou.last,Nonce.Ou.set];done)
 ·simp[hk];exact aA (by simp[Nonce.CA,hk])
attribute [simp] ntmps504 results504 ntmps410 results410 ntmps323 results323 ntmps322 results322 ntmps321 results321 ntmps411 results411 ntmps324 results324 ntmps413 results413 ntmps325 results325 ntmps508 results508 ntmps415 results415 ntmps416 results416 ntmps326 results326 ntmps327 results327 ntmps418 results418 ntmps419 results419 ntmps328 results328 ntmps234 results234
theorem zgI (l:List G.Mark)(kf:D)(p:G.Mark->Bool)(hf:∀x∈l,bN prog (.d kf) [st (jD x)] (bool (p x)))(hl:l.length<=9223372036854775807):C0 504 [aB (l.map jD),.d kf] (int (iZ p l)):=by
 refine Ct.B func504 ?_;simp;refine aH.inv mixed rfl (ι:={k:Nat//k<=(l).length/\(l.take k).all (λx=>!p x)=true}) (λk=>[(0,aB (l.map jD)),(1,.d kf),(7,int l.length),(8,int k.1)]) (λk=>[]) 64 (λk=>(l).length-k.1) ⟨0,by omega,by simp⟩ [] (by constructor<;>simp) ?_;rintro⟨k,hk1,hi⟩ B hB;refine CI.n ?_;simp;rcases bC hk1 with⟨r,hk,hx,hr,hm,ht,hd,hw,h⟩|rfl
 ·simp[h,hr,hw];refine CI.ff (hf r hm) rfl rfl rfl ?_;simp;refine bQ (λhp=>?_) (λhp=>?_)<;>simp only[hp]<;>simp
  ·exact aA (by simp[yR hi hr hp])
  ·refine hB _ ⟨k+1,by omega,by simp[ht,hi,hp]⟩ [] ?_ (by simp;omega);constructor<;>simp[hw,ht,hp]
 ·simp;rw[bX]at hi;exact aA (by simp[yQ (λx hx=>by have:=dP.1 hi x hx;simpa using this)])
theorem Sg (l:List G.Mark)(kf:D)(p:G.Mark->Bool)(hf:∀x∈l,bN prog (.d kf) [st (jD x)] (bool (p x)))(hl:l.length<=9223372036854775807):C0 410 [aB (l.map jD),.d kf] (bool (l.any p)):=by
 refine Ct.B func410 ?_;simp;refine CI.p (zgI l kf p hf hl) ?_;simp;rw[DR];exact aA
theorem CR (n m:Int):C0 323 [int n,int m] (bool (bG n m)):=by
 refine Ct.B func323 ?_;simp
 repeat' first
  | (refine bM (λh=>?_) (λh=>?_)<;>simp only[h]<;>simp[h])
  | (refine bQ (λh=>?_) (λh=>?_)<;>simp only[h]<;>simp[h])
  | (refine⟨(show jG _ _ from by decide+kernel),?_⟩)
  |fail
 all_goals exact aA (by simp[*,bG])
theorem zI (b:Bool)(e:Int):C0 322 [bool b,int e] (int (if b=true then 0 else e)):=by
 refine Ct.B func322 ?_;simp;refine bQ (λh1=>?_) (λh1=>?_)<;>simp only[h1]<;>simp
 ·exact aA (by simp[h1])
 ·exact aA (by simp[h1])
theorem Pj (l:List Int)(hl:l.length<=1000):C0 321 [aB (l.map kP)] (int ((l.find? λe=>!decide (e=0)).getD 0)):=by
 refine Ct.B func321 ?_;simp;refine aH.inv mixed rfl (ι:={k:Nat//k<=(l).length/\(l.take k).all (λe=>decide (e=0))=true}) (λk=>[(5,aB (l.map kP)),(6,int l.length),(7,int k.1)]) (λk=>[]) 64 (λk=>(l).length-k.1) ⟨0,by omega,by simp⟩ [] (by constructor<;>simp) ?_;rintro⟨k,hk1,hi⟩ B hB;refine CI.n ?_;simp;rcases bC hk1 with⟨x,hk,hx,hr,hm,ht,hd,hw,h⟩|rfl
 ·simp[h,hr,hw];refine aX (λh1 zz=>?_) (λh1 zz=>?_)<;>simp only[zz]<;>simp
  ·have e:(l.find? λe=>!decide (e=0))=some x:=zhH hi hr h1;exact aA (by simp[e])
  ·refine hB _ ⟨k+1,by omega,by simp[ht,hi,h1]⟩ [] ?_ (by simp;omega);constructor<;>simp[hw,ht,h1]
 ·simp;rw[bX]at hi;have e:(l.find? λe=>!decide (e=0))=none:=zhI hi;exact aA (by simp[e])
theorem Zv (m:G.Mark):C0 411 [st (jD m)] (bool (!bG m.bR 2147483647)):=by
 refine Ct.B func411 ?_;simp;refine CI.p (CR m.bR 2147483647) ?_;simp;exact aA
theorem Dq (f:G.Frame)(hf:fJ f):C0 324 [st (cA f)] (bool (mM f)):=by
 refine Ct.B func324 ?_;simp;refine CI.p (Sg f.aP (dE 411) (λm=>!bG m.bR 2147483647) (λm _=>bN.of (Zv m) call411 rfl rfl) hf.aP) ?_;simp;rw[I1];refine bM (λh1=>?_) (λh1=>?_)<;>simp only[h1]<;>simp
 ·have hl:f.aD.length<=64/\f.gone.length<=64/\f.aP.length<=64/\f.held.length<=64:=by
   simp only[EK,JH]at h1
   (repeat' split at h1)<;>omega
  obtain⟨l1,l2,l3,l4⟩:=hl;refine bM (λh2=>?_) (λh2=>?_)<;>simp only[h2]<;>simp
  ·refine CI.p (CR f.aM 2147483647) ?_;simp;refine bM (λh3=>?_) (λh3=>?_)<;>simp only[h3]<;>simp
   ·refine CI.p (CR f.cN 2147483647) ?_;simp;refine bM (λh4=>?_) (λh4=>?_)<;>simp only[h4]<;>simp
    ·refine CI.p (CR f.turn 2147483647) ?_;simp;refine bM (λh5=>?_) (λh5=>?_)<;>simp only[h5]<;>simp
     ·refine CI.p (CR f.err 15) ?_;simp;exact aA (by simp[mM,l1,l2,l3,l4,h2,h3,h4,h5])
     ·exact aA (by simp[mM,h5])
    ·exact aA (by simp[mM,h4])
   ·exact aA (by simp[mM,h3])
  ·exact aA (by simp[mM,h2])
 ·have hl:mM f=false:=by
   rw[TX];intro hs;obtain⟨l1,l2,l3,l4,_⟩:=sV hs;simp only[Bool.not_eq_false',dA]at h1
   (repeat' split at h1)<;>omega
  exact aA (by simp[hl])
theorem zka (f:G.Frame):C0 413 [st (cA f)] (st (cA (sH f))):=by
 refine Ct.B func413 ?_;simp;refine aX (λh1 zz=>?_) (λh1 zz=>?_)<;>simp only[zz]<;>simp
 ·exact aA (by simp[sH,h1])
 refine aX (λh2 zz=>?_) (λh2 zz=>?_)<;>simp only[zz]<;>simp
 ·exact aA (by simp[sH,h1,h2])
 refine aX (λh3 zz=>?_) (λh3 zz=>?_)<;>simp only[zz]<;>simp
 ·exact aA (by simp[sH,h1,h2,h3])
 refine aX (λh4 zz=>?_) (λh4 zz=>?_)<;>simp only[zz]<;>simp
 ·exact aA (by simp[sH,h1,h2,h3,h4])
 ·exact aA (by simp[sH,h1,h2,h3,h4])
theorem Ds (f:G.Frame)(hf:fJ f):C0 325 [st (cA f)] (bool (wF f)):=by
 refine Ct.B func325 ?_;simp;refine CI.p (zka f) ?_;simp;refine CI.p (zbu (sH f) {eV with type:=f.type} (zj9 hf)) ?_ (ha:=by simp[eV]);simp[eV];exact aK (by simp[wF,eV])
theorem zgk (k_:Key):C0 508 [st (aQ k_)] (bool (eN k_)):=by
 refine Ct.B func508 ?_;simp;refine CI.p (CR k_.kind 3) ?_;simp;refine bM (λh1=>?_) (λh1=>?_)<;>simp only[h1]<;>simp
 ·refine CI.p (H6 k_.name) ?_;simp;exact aA (by simp[eN,h1])
 ·exact aA (by simp[eN,h1])
theorem ZW (k_:Key):C0 415 [st (aQ k_)] (bool (!eN k_)):=by
 refine Ct.B func415 ?_;simp;refine CI.p (zgk k_) ?_;simp;exact aA
theorem zfi (m:G.Mark):C0 416 [st (jD m)] (bool (!eN m.k)):=by
 refine Ct.B func416 ?_;simp;refine CI.p (ZW m.k) ?_;simp;exact aA
theorem Kz (f:G.Frame)(hf:fJ f):C0 326 [st (cA f)] (bool (kN f)):=by
 refine Ct.B func326 ?_;simp;refine CI.p (S7 f.gone (dE 415) (λk=>!eN k) (λk _=>bN.of (ZW k) call415 rfl rfl) hf.gone) ?_;simp;rw[I1,Bool.not_not];refine bM (λh1=>?_) (λh1=>?_)<;>simp only[h1]<;>simp
 ·refine CI.p (S7 f.held (dE 415) (λk=>!eN k) (λk _=>bN.of (ZW k) call415 rfl rfl) hf.held) ?_;simp;rw[I1,Bool.not_not];refine bM (λh2=>?_) (λh2=>?_)<;>simp only[h2]<;>simp
  ·refine CI.p (Sg f.aP (dE 416) (λm=>!eN m.k) (λm _=>bN.of (zfi m) call416 rfl rfl) hf.aP) ?_;simp;rw[I1,Bool.not_not];exact aA (by simp[kN,h1,h2])
  ·exact aA (by simp[kN,h1,h2])
 ·exact aA (by simp[kN,h1])
theorem Sx (f:G.Frame)(hf:fJ f):C0 327 [st (cA f)] (int (mV f.aD)):=by
 refine Ct.B func327 ?_;simp;have hl:=hf.aD.1;refine aH.inv mixed rfl (ι:={k:Nat//k<=(f.aD).length/\(f.aD.take k).all (λr=>decide (cQ r=0))=true}) (λk=>[(7,aB (f.aD.map aF)),(8,int f.aD.length),(9,int k.1)]) (λk=>[]) 64 (λk=>(f.aD).length-k.1) ⟨0,by omega,by simp⟩ [] (by constructor<;>simp) ?_;rintro⟨k,hk1,hi⟩ B hB;refine CI.n ?_;simp;rcases bC hk1 with⟨x,hk,hx,hr,hm,ht,hd,hw,h⟩|rfl
 ·simp[h,hr,hw];refine CI.p (CZ x) ?_;simp;refine aX (λh1 zz=>?_) (λh1 zz=>?_)<;>simp only[zz]<;>simp
  ·have e:=IL hi hr h1;exact aA (by simp[e])
  ·refine hB _ ⟨k+1,by omega,by simp[ht,hi,h1]⟩ [] ?_ (by simp;omega);constructor<;>simp[hw,ht,h1]
 ·simp;rw[bX]at hi;have e:=RH hi;exact aA (by simp[e])
theorem zgj (f:G.Frame)(r:aC):C0 418 [st (aF r),.d (.bE (cA f))] (bool (!decide (r.kind=f.kind))):=by
 refine Ct.B func418 ?_;simp;exact aA
theorem zgi (f:G.Frame)(k_:Key):C0 419 [st (aQ k_),.d (.bE (cA f))] (bool (!decide (k_.kind=f.kind))):=by
 refine Ct.B func419 ?_;simp;exact aA
theorem Ng (f:G.Frame)(hf:fJ f):C0 328 [st (cA f)] (bool (o9 f)):=by
 refine Ct.BS func328 mixed 1 400 ?_;simp;refine CI.s (tm:=[(1,.d (.bE (cA f)))]) (mm:=[]) (nx:=65) [] [64] (by constructor<;>simp) ?_;refine CI.n ?_;simp;refine CI.p (Se f.aD (.fn (.func 418) [] [.bE (cA f)]) (λr=>!decide (r.kind=f.kind)) (λr _=>bN.nZ (by exact zgj f r) call418 rfl rfl) hf.aD.len) ?_;simp;rw[I1,Bool.not_not];refine bM (λh1=>?_) (λh1=>?_)<;>simp only[h1]<;>simp
 ·refine CI.p (S7 f.gone (.fn (.func 419) [] [.bE (cA f)]) (λk=>!decide (k.kind=f.kind)) (λk _=>bN.nZ (by exact zgi f k) call419 rfl rfl) hf.gone) ?_;simp;rw[I1,Bool.not_not];have e:o9 f=f.gone.all λk=>decide (k.kind=f.kind):=by rw[o9,h1,uP]
  rw[<-e];exact aA
 ·skip
  have e:o9 f=false:=by rw[o9,h1,A4]
  exact aA (by simp[e])
theorem FM (f:G.Frame)(hf:fJ f):C0 234 [st (cA f)] (int (dD f)):=by
 refine Ct.B func234 ?_;simp;refine CI.p (CR f.type 3) ?_;simp;refine bM (λh1=>?_) (λh1=>?_)<;>simp only[h1]<;>simp
 ·refine CI.p (CR f.kind 3) ?_;simp;refine CI.p (zI (bG f.kind 3) 4) ?_;simp;refine CI.p (Dq f hf) ?_;simp;refine CI.p (zI (mM f) 3) ?_;simp;refine CI.p (Ds f hf) ?_;simp;refine CI.p (zI (wF f) 2) ?_;simp;refine CI.p (Kz f hf) ?_;simp;refine CI.p (zI (kN f) 5) ?_;simp;refine CI.p (Sx f hf) ?_;simp;refine CI.p (Ng f hf) ?_;simp;refine CI.p (zI (o9 f) 2) ?_;simp;refine CI.g [1664] [] (Pj [if bG f.kind 3=true then 0 else 4,if mM f=true then 0 else 3,if wF f=true then 0 else 2,if kN f=true then 0 else 5,mV f.aD,if o9 f=true then 0 else 2] (by simp)) ?_;simp;have e:=zhK f;rw[h1,uP]at e;rw[e];exact aK
 ·skip
  refine CI.p (zI false 4) ?_;simp;refine CI.p (Dq f hf) ?_;simp;refine CI.p (zI (mM f) 3) ?_;simp;refine CI.p (Ds f hf) ?_;simp;refine CI.p (zI (wF f) 2) ?_;simp;refine CI.p (Kz f hf) ?_;simp;refine CI.p (zI (kN f) 5) ?_;simp;refine CI.p (Sx f hf) ?_;simp;refine CI.p (Ng f hf) ?_;simp;refine CI.p (zI (o9 f) 2) ?_;simp;refine CI.g [1664] [] (Pj [4,if mM f=true then 0 else 3,if wF f=true then 0 else 2,if kN f=true then 0 else 5,mV f.aD,if o9 f=true then 0 else 2] (by simp)) ?_;simp;have e:dD f=4:=by simp[dD,h1]
  exact aK (by simp[e])
attribute [simp] ntmps58 results58 ntmps294 results294 ntmps214 results214 ntmps215 results215 ntmps143 results143 ntmps82 results82 ntmps329 results329 ntmps330 results330 ntmps332 results332 ntmps331 results331 ntmps235 results235 ntmps164 results164
theorem wL (e m:Int):C0 58 [int e,int m] (st (iB (o7 e m))):=by
 refine Ct.B func58 ?_;simp;refine CI.p (N7 m) ?_;simp;have h:=Px e;exact aA (by simp[o7,h,vV,eV])
theorem U0 (f:G.Frame)(hf:fJ f):C0 294 [st (cA f)] (bool (decide (dD f=0))):=by
 refine Ct.B func294 ?_;simp;refine CI.p (FM f hf) ?_;simp;exact aA
theorem za4 (v:View)(hv:v.held.length<=9223372036854775807)(hl:v.aP.length<=1000000):C0 214 [st (q7 v)] (bool (zM v)):=by
 refine Ct.B func214 ?_;simp;refine CI.p (Mc v.aP hl) ?_;simp;refine CI.p (U0 (nV v) (Nx v (by omega))) ?_ (ha:=by simp[nV]);simp[nV];refine bM (λh1=>?_) (λh1=>?_)<;>simp only[h1]<;>simp
 ·refine CI.p (U0 (pD v) (ZC hv)) ?_ (ha:=by simp[pD]);simp[pD];exact aA (by simp[zM,h1,nV,pD])
 ·exact aA (by simp[zM,h1,nV])
theorem Un (s:cW)(hs:fJ s.v.push):C0 215 [st (iB s)] (bool (lC s)):=by
 refine Ct.B func215 ?_;simp;refine bM (λh1=>?_) (λh1=>?_)<;>simp only[h1]<;>simp
 ·have h1':s.oL=false:=by simpa using h1
  exact aA (by simp[lC,h1'])
 have h1':s.oL=true:=by simpa using h1
 refine CI.p (U0 s.v.push hs) ?_;simp;refine bM (λh2=>?_) (λh2=>?_)<;>simp only[h2]<;>simp
 ·have h2':¬dD s.v.push=0:=by simpa using h2
  exact aA (by simp[lC,h2'])
 have h2':dD s.v.push=0:=by simpa using h2
 refine bM (λh3=>?_) (λh3=>?_)<;>simp only[h3]<;>simp
 ·have h3':¬s.v.push.type=1:=by simpa using h3
  exact aA (by simp[lC,h3'])
 have h3':s.v.push.type=1:=by simpa using h3
 refine bQ (λh4=>?_) (λh4=>?_)<;>simp only[h4]<;>simp
 ·have h4':¬s.v.push.aM=s.aM:=by simpa using h4
  exact aA (by simp[lC,h4'])
 have h4':s.v.push.aM=s.aM:=by simpa using h4
 rcases O9 h2' with hk|hk|hk|hk
 ·simp[hk];refine bM (λh5=>?_) (λh5=>?_)<;>simp only[h5]<;>simp[hk]
  ·exact aK (by simp[lC,h1',h2',h3',h4',hk,h5,Nonce.Ou.nS,Nonce.Ou.last])
  ·exact aK (by simp[lC,h1',h2',h3',h4',hk,h5,Nonce.Ou.nS,Nonce.Ou.last])
 ·simp[hk];refine bM (λh5=>?_) (λh5=>?_)<;>simp only[h5]<;>simp[hk]
  ·exact aK (by simp[lC,h1',h2',h3',h4',hk,h5,Nonce.Ou.nS,Nonce.Ou.last])
  ·exact aK (by simp[lC,h1',h2',h3',h4',hk,h5,Nonce.Ou.nS,Nonce.Ou.last])
 ·simp[hk];refine bM (λh5=>?_) (λh5=>?_)<;>simp only[h5]<;>simp[hk]
  ·exact aK (by simp[lC,h1',h2',h3',h4',hk,h5,Nonce.Ou.nS,Nonce.Ou.last])
  ·exact aK (by simp[lC,h1',h2',h3',h4',hk,h5,Nonce.Ou.nS,Nonce.Ou.last])
 ·simp[hk];refine bM (λh5=>?_) (λh5=>?_)<;>simp only[h5]<;>simp[hk]
  ·exact aK (by simp[lC,h1',h2',h3',h4',hk,h5,Nonce.Ou.nS,Nonce.Ou.last])
  ·exact aK (by simp[lC,h1',h2',h3',h4',hk,h5,Nonce.Ou.nS,Nonce.Ou.last])
theorem zbc (s:cW)(hd:s.v.held.length<=9223372036854775807)(hs:fJ s.v.push)(hl:s.v.aP.length<=1000000):C0 143 [st (iB s)] (bool (gE s)):=by
 refine Ct.B func143 ?_;simp;refine bM (λh1=>?_) (λh1=>?_)<;>simp only[h1]<;>simp
 ·skip
  refine bM (λh2=>?_) (λh2=>?_)<;>simp only[h2]<;>simp
  ·skip
   refine bM (λh3=>?_) (λh3=>?_)<;>simp only[h3]<;>simp
   ·skip
    refine bM (λh4=>?_) (λh4=>?_)<;>simp only[h4]<;>simp
    ·skip
     refine bM (λh5=>?_) (λh5=>?_)<;>simp only[h5]<;>simp
     ·skip
      refine CI.p (Oj s.out) ?_;simp;refine bM (λh6=>?_) (λh6=>?_)<;>simp only[h6]<;>simp
      ·skip
       refine CI.p (za4 s.v hd hl) ?_;simp;refine bM (λh7=>?_) (λh7=>?_)<;>simp only[h7]<;>simp
       ·skip
        refine bM (λh8=>?_) (λh8=>?_)<;>simp only[h8]<;>simp
        ·exact aA (by simp[gE,pN,bG,h1,h2,h3,h4,h5,h6,h7,h8])
        ·refine CI.p (Un s hs) ?_;simp;exact aA (by simp[gE,pN,bG,h1,h2,h3,h4,h5,h6,h7,h8])
       ·exact aA (by simp[gE,h7])
      ·exact aA (by simp[gE,h6])
     ·exact aA (by simp[gE,pN,bG,h5])
    ·exact aA (by simp[gE,pN,bG,h4])
   ·exact aA (by simp[gE,pN,bG,h3])
  ·exact aA (by simp[gE,pN,bG,h2])
 ·exact aA (by simp[gE,pN,bG,h1])
theorem Df (s:cW)(hd:s.v.held.length<=9223372036854775807)(hs:fJ s.v.push)(hl:s.v.aP.length<=1000000):C0 82 [st (iB s)] (st (iB (hZ s))):=by
 refine Ct.B func82 ?_;simp;refine CI.p (zbc s hd hs hl) ?_;simp;refine bQ (λh1=>?_) (λh1=>?_)<;>simp only[h1]<;>simp
 ·have h1':gE s=false:=by simpa using h1
  refine CI.p (wL s.aM s.out.m) ?_;simp;exact aA (by simp[hZ,h1'])
 ·have h1':gE s=true:=by simpa using h1
  exact aA (by simp[hZ,h1'])
theorem U2 (s:cW)(hs:rP s)(hl:s.v.aP.length<=1000000):C0 82 [st (iB s)] (st (iB (hZ s))):=Df s hs.v.held hs.v.push hl
theorem zgY (s:cW)(p:aW)(f:G.Frame)(hp:vR p)(hl:f.aP.length<=1000):C0 329 [st (iB s),st (eW p),st (cA f)] (.aU [st (iB (sF s p f).1),int (sF s p f).2]):=by
 refine Ct.B func329 ?_;simp;refine bQ (λh1=>?_) (λh1=>?_)<;>simp only[h1]<;>simp
 ·exact aA (by simp[sF,h1])
 refine CI.p (zge p f.aP hp hl) ?_;simp;have hk:=K9 p f.aP;refine aX (λh2 zz=>?_) (λh2 zz=>?_)<;>simp only[zz]<;>simp
 ·refine CI.cc [] (QU (pQ p f.aP) (by omega)) ?_;simp;exact aA (by simp[sF,wM,h1,h2])
 ·exact aA (by simp[sF,wM,h1,h2])
theorem zcN (s:cW)(p:aW)(f:G.Frame):C0 330 [st (iB s),st (eW p),st (cA f)] (.aU [st (iB s),int 2]):=by
 refine Ct.B func330 ?_;simp;exact aA
theorem ziv (s:cW)(p:aW)(f:G.Frame):C0 332 [st (iB s),st (eW p),st (cA f)] (.aU [st (iB (B6 s f).1),int (B6 s f).2]):=by
 refine Ct.B func332 ?_;simp;refine CI.p (ZB s.v f.turn f.held) ?_;simp;exact aA (by simp[B6])
theorem zlf (s:cW)(p:aW)(f:G.Frame)(hl:s.v.open_=true->s.v.aP.length+s.v.push.aD.length<=1000000/\s.v.push.gone.length<=9223372036854775807)(hp:p.bA.length<=1000000):C0 331 [st (iB s),st (eW p),st (cA f)] (.aU [st (iB (lP s p f).1),int (lP s p f).2]):=by
 refine Ct.B func331 ?_;simp;refine CI.p (ze7 s.out f.kind f.cN) ?_;simp;refine aX (λh1 zz=>?_) (λh1 zz=>?_)<;>simp only[zz]<;>simp
 ·exact aA (by simp[lP,h1])
 refine bQ (λh2=>?_) (λh2=>?_)<;>simp only[h2]<;>simp
 ·have h2':s.v.open_=false:=by simpa using h2
  exact aA (by simp[lP,h1,h2'])
 have h2':s.v.open_=true:=by simpa using h2
 refine CI.p (zkV s.v f (hl h2').1 (hl h2').2) ?_;simp;refine bQ (λh3=>?_) (λh3=>?_)<;>simp only[h3]<;>simp
 ·exact aA (by simp[lP,h1,h2',h3])
 refine aX (λh4 zz=>?_) (λh4 zz=>?_)<;>simp only[zz]<;>simp
 ·have h4':64<(gC s.v f).aP.length:=by omega
  exact aA (by simp[lP,h1,h2',h3,h4'])
 have h4':¬64<(gC s.v f).aP.length:=by omega
 refine CI.p (DG p hp) ?_;simp;exact aK (by simp[lP,h1,h2',h3,h4',kM])
theorem zjZ :C0 235 [int 0] (.d (dE 329)):=by
 refine Ct.B func235 ?_;simp;exact aA
theorem zjY :C0 235 [int 1] (.d (dE 330)):=by
 refine Ct.B func235 ?_;simp;exact aA
theorem zjX :C0 235 [int 2] (.d (dE 331)):=by
 refine Ct.B func235 ?_;simp;exact aA
theorem zjW :C0 235 [int 3] (.d (dE 332)):=by
 refine Ct.B func235 ?_;simp;exact aA
theorem zhb (s:cW)(p:aW)(f:G.Frame)(hd:s.v.held.length<=9223372036854775807)(hs:fJ s.v.push)(hl:s.v.aP.length<=1000000)(hf:fJ f)(hp:vR p)(hpl:p.bA.length<=1000000):C0 164 [st (iB s),st (eW p),st (cA f)] (.aU [st (iB (handle s p f).1),int (handle s p f).2]):=by
 refine Ct.B func164 ?_;simp;refine CI.p (Df s hd hs hl) ?_;simp;have hq0:=OA s;have hh:handle s p f=mT (hZ s) p f:=rfl;rw[hh];clear hh;generalize hZ s=q at hq0⊢;have S:=mQ.1 hq0;refine CI.p (FM f hf) ?_;simp;refine aX (λh1 zz=>?_) (λh1 zz=>?_)<;>simp only[zz]<;>simp
 ·exact aA (by simp[mT,h1])
 refine aX (λh2 zz=>?_) (λh2 zz=>?_)<;>simp only[zz]<;>simp
 ·exact aA (by simp[mT,h1,h2])
 have F:=j9.1 h1;have L:=sV F.small;have hS:=S.hl;rcases Gu h1 with h3|h3|h3|h3
 ·refine CI.p zjZ ?_ (ha:=by simp[h3]);simp[h3];refine CI.ff (bN.of (zgY q p f hp (by omega)) call329 rfl rfl) rfl rfl rfl ?_ (ha:=by simp[h3]);simp[h3];refine dr ?_;exact aA (by simp[mT,h1,h2,h3])
 ·refine CI.p zjY ?_ (ha:=by simp[h3]);simp[h3];refine CI.ff (bN.of (zcN q p f) call330 rfl rfl) rfl rfl rfl ?_ (ha:=by simp[h3]);simp[h3];refine dr ?_;exact aA (by simp[mT,h1,h2,h3])
 ·refine CI.p zjX ?_ (ha:=by simp[h3]);simp[h3];refine CI.ff (bN.of (zlf q p f (Iu S) hpl) call331 rfl rfl) rfl rfl rfl ?_ (ha:=by simp[h3]);simp[h3];refine dr ?_;exact aA (by simp[mT,h1,h2,h3])
 ·refine CI.p zjW ?_ (ha:=by simp[h3]);simp[h3];refine CI.ff (bN.of (ziv q p f) call332 rfl rfl) rfl rfl rfl ?_ (ha:=by simp[h3]);simp[h3];refine dr ?_;exact aA (by simp[mT,h1,h2,h3])
end Go.Proofs.YtobcmagefgdgdaaGreatDoor
