/-
  THROUGH THE LAYERS: the laws' own helpers.
-/
import Derived.Test.YtegplpagkajolaaGreatDoorPt
import Derived.Test.YtegplpagkajolaaGreatDoorWo
set_option linter.unusedSimpArgs false
set_option linter.unusedVariables false
set_option maxRecDepth 100000
set_option maxHeartbeats 8000000
namespace Go.G
open Go.AI
theorem QW {r:aA}(h:eL r=0){k:Key}:k∈eT r↔k∈pT r r.rules.length:=by
 rw[<-WU h,ZU,(zQ _ (o:=[]) List.Pairwise.nil).2 k];simp
theorem Ci (w:Weight)(l:List Weight):oN (w::l)=kO w+oN l:=by
 have:∀(l:List Weight) (n:Int),l.foldl (fun n w=>n+kO w) n=n+oN l:=by
  intro l;induction l with
  |nil=>intro n;simp[oN]
  |cons x l ih=>intro n;simp only[oN,rR]at ih⊢;rw[ih,ih (0+kO x)];omega
 show(w::l).foldl _ 0=_;rw[rR,this];omega
theorem Rx :∀(l:List Weight) (n:Int),0<=n->n<oN l->∃w∈l,A8 l n=(w.gI,true)/\0<kO w
 |[],n,h1,h2=>by simp[oN]at h2;omega
 |w::l,n,h1,h2=>by
  rw[Ci]at h2;unfold A8;split
  ·exact⟨w,xF,rfl,by omega⟩
  ·obtain⟨x,hx,e,h⟩:=Rx l (n-kO w) (by omega) (by omega);exact⟨x,xG _ hx,e,h⟩
theorem Br {w:Weight}:0<kO w↔0<w.w:=by unfold kO;omega
theorem Vu {l:List Weight}{w:Weight}(h:w∈l)(hw:0<kO w):0<oN l:=by
 induction l with
 |nil=>cases h
 |cons x l ih=>
  rw[Ci];have:=UU l;rcases kN.1 h with rfl|g
  ·omega
  ·have:=ih g;have:0<=kO x:=by unfold kO;omega
   omega
theorem Rq {l:List Weight}(h:∃w∈l,0<w.w)(d:Int):∃w∈l,tN l d=(w.gI,true)/\0<w.w:=by
 obtain⟨w,hw,h0⟩:=h;have ht:=Vu hw (Br.2 h0);unfold tN;rw[aH (by omega)];obtain⟨x,hx,e,hp⟩:=Rx l ((max 0 d).tmod (oN l)) (KX _ (by omega)) (N9 _ ht);exact⟨x,hx,e,Br.1 hp⟩
theorem Gg {l:List gB}{h s:cH}(e:(nQ l h s).2=true):(nQ l h s).1∈l:=by
 have:∀(m:List gB) (z:gB×Bool),(z.2=true->z.1∈l)->(∀x∈m,x∈l)->(m.foldl (o6 fun r=>AY r.host h&&B5 r.pre s) z).2=true->(m.foldl (o6 fun r=>AY r.host h&&B5 r.pre s) z).1∈l:=by
  intro m;induction m with
  |nil=>intro z hz _;exact hz
  |cons x m ih=>
   intro z hz hm;refine ih _ ?_ (fun y hy=>hm y (xG _ hy));unfold o6;split
   ·exact fun _=>hm x xF
   ·exact hz
 exact this l _ (by simp) (fun x hx=>hx) e
theorem zgo {l:List Int}(h:l≠[])(d:Int):∃x∈l,tK l d=(x,true):=by
 unfold tK;rw[aH h];have hl:0<l.length:=xI.2 h;have a:=N9 (max 0 d) (b:=(l.length:Int)) (by omega);have b:=KX (a:=max 0 d) (l.length:Int) (by omega);have c:((max 0 d).tmod l.length).toNat<l.length:=by omega
 refine⟨_,?_,rfl⟩;rw[List.getD_eq_getElem?_getD,cI c,sS];exact lU c
def wE (L:List aA)(a:nC):Bool:=
 if a.nD=3 then(aS L ⟨2,a.gI⟩).isSome&&(aS L ⟨3,((aS L ⟨2,a.gI⟩).getD jE).to⟩).isSome&&decide (a.host∈((aS L ⟨3,((aS L ⟨2,a.gI⟩).getD jE).to⟩).getD jE).cT)
 else decide (a.nD=0\/a.nD=1\/a.nD=2)&&decide (a=⟨a.nD,⟨#[]⟩,0⟩)
theorem Bp {L:List aA}(h:Whole L){r:aA}(hr:r∈L){q:Key}(hq:q∈eT r):∃x,aS L q=some x/\x∈L/\x.key=q:=by
 have:=XM (by rw[h.IX];rfl) hr hq;obtain⟨x,hx⟩:=pA.1 this;exact⟨x,hx,gV hx,kK hx⟩
theorem Bo {L:List aA}(h:Whole L){r:aA}(hr:r∈L)(hk:r.kind=0\/r.kind=2):∃x,aS L ⟨r.kind+1,r.to⟩=some x/\x∈L/\x.key=⟨r.kind+1,r.to⟩:=by
 have hs:=pD h.rX hr;refine Bp h hr ((QW hs).2 ?_);have nm:=(zA hs).2.2.2.2.1;have mt:tH r.kind=true:=by unfold tH;rcases hk with e|e<;>simp[e]
 unfold wN at nm;simp only[mt,DO,HM,bN]at nm;have ne:bs r.to≠[]:=fun e=>by
  have:=nm.1;simp[kH,r8,e]at this
 unfold pT;rw[aH ne];exact uU _ (fI.2 rfl)
theorem Bq {L:List aA}(h:Whole L)(a:Ask):(iZ L true a).nD≠0/\wE L (iZ L true a)=true:=by
 unfold iZ;rw[aH (by decide)];cases hl:wP L a.port with
 |none=>exact⟨by simp,by simp[wE]⟩
 |some x=>
  have hx:=KR hl;have hm:=N6 hl;simp only[bN,cP]at hx;obtain⟨y,hy,ym,yk⟩:=Bo h hm (.inl hx.1);rw[hx.1]at hy yk;show(tQ L a x.to).nD≠0/\_;have hy':aS L ⟨1,x.to⟩=some y:=hy;have e2:tQ L a x.to=if(nQ y.rules a.host a.path).2=false then⟨2,⟨#[]⟩,0⟩else if(tN (nQ y.rules a.host a.path).1.split a.first).2=false then⟨0,⟨#[]⟩,0⟩else wZ L a (tN (nQ y.rules a.host a.path).1.split a.first).1:=by
   unfold tQ;simp[hy']
  show(tQ L a x.to).nD≠0/\wE L (tQ L a x.to)=true;rw[e2];by_cases hu:(nQ y.rules a.host a.path).2=true
  ·have ui:=Gg hu;have ys:=pD h.rX ym;have sg:=(zA ys).2.2.2.2.2;simp only[CA,bN,eF]at sg;have we:=sg.1.1 _ ui;simp only[FJ,xK,cP]at we;obtain⟨w,wm,we,w0⟩:=Rq we a.first;have kq:(⟨2,w.gI⟩:Key)∈eT y:=by
    rw[QW ys];unfold pT;refine List.mem_append_right _ (eR.2 ⟨w,jD.2 ⟨KJ.2 ⟨_,?_,wm⟩,by simpa using w0⟩,rfl⟩);rw[fA];exact ui
   obtain⟨cl,hc,cm,ck⟩:=Bp h ym kq;have ck2:cl.kind=2:=dH Key.kind ck;obtain⟨e,he,em,ek⟩:=Bo h cm (.inr ck2);rw[ck2]at he ek;have ek3:e.kind=3:=dH Key.kind ek;have hn:e.cT≠[]:=fun q=>by
    have:=h.full e em;simp[yJ,ek3,q]at this
   obtain⟨g,gm,ge⟩:=zgo hn a.other;have he':aS L ⟨3,cl.to⟩=some e:=he;rw[aH (by simp[hu]),we,aH (by simp)];have e3:wZ L a w.gI=⟨3,w.gI,g⟩:=by
    unfold wZ;simp[hc,he',ge]
   rw[e3];exact⟨by simp,by simp[wE,hc,he',gm]⟩
  ·simp only[Bool.not_eq_true]at hu;rw[aU hu];exact⟨by simp,by simp[wE]⟩
end Go.G
namespace Go.Proofs.YtegplpagkajolaaGreatDoor
open Go.AI Go.G Tryz
attribute [simp] ntmps23 results23 ntmps34 results34 ntmps7 results7 ntmps8 results8 ntmps11 results11 ntmps10 results10
theorem ziW (M:G.bL)(r:Nat)(B:Int)(hk:M.ns.length=1)(hM:cN M B)(hB:B<=230600)(hr:r<=100):cO eY prog 23 [.ptr 0 0,int r] [] (B1 M) (.bI []) (B1 (oH M r)):=by
 refine cO.B lZ func23 ?_;simp;refine aQ.inv mixed rfl (ι:={k:Nat//k<=r}) (fun k=>[(0,.ptr 0 0),(1,int r),(4,int k.1)]) (fun k=>B1 (oH M k.1)) 64 (fun k=>r-k.1) ⟨0,by omega⟩ [] (by constructor<;>simp[oH]) ?_;rintro⟨kk,hk1⟩ B1_ hB;refine CI.n ?_;simp;refine aJ (fun h1=>?_) (fun h1=>?_)<;>simp only[h1]<;>simp<;>(try simp only[nT,nF,dT,dF]at h1)
 ·obtain⟨q1,q2⟩:=NB hk hM kk;generalize hN:oH M kk=N at q1 q2⊢;refine aQ.rounds 2 ?_;refine dE.s ?_;simp;refine CI.cc [0,1,2] (LJ N) ?_;simp;refine aQ.rounds 3 ?_;refine dE.s ?_;simp;refine CI.cc [0,1,2] (Bv N) ?_;simp;refine aQ.inv mixed rfl (ι:={j:Nat//j<=(nth N 0).up.q.length}) (fun k=>[(0,.ptr 0 0),(1,int r),(4,int kk),(5,int 0),(6,int 0),(7,.ptr 1216 0),(9,int k.1)]) (fun k=>B1 (jX N 0 k.1)++[(1216,.cells ((kR (nth N 0).up).map .d) 108)]) 1217 (fun k=>(nth N 0).up.q.length-k.1) ⟨0,by omega⟩ [] (by constructor<;>simp[jX]) ?_;rintro⟨j,hj⟩ B0 hB0;have hlen:(nth N 0).up.q.length<=32:=K2 q1 q2 0;refine CI.n ?_;simp;refine aJ (fun h2=>?_) (fun h2=>?_)<;>simp only[h2]<;>simp<;>(try simp only[nT,nF,dT,dF]at h2)
  ·have hb:=JU q1 q2 (w:=0) (by omega) j;have wj:IntKind.wrap .i64 ((j:Int)+1)=j+1:=wrap_i64 (by omega) (by omega);generalize hbk:jX N 0 j=K at hb⊢;refine CI.j [0,1,2] (DY K (l6 0) _ hb.1 hb.2 (by omega) (L2 0)) ?_ (ha:=by simp[l6,cQ]) (hk:=by simp[l6,cQ]);simp[l6,cQ];refine hB0 _ ⟨j+1,by omega⟩ [] ?_ (by simp;omega);constructor<;>simp[jX,hbk,l6,cQ,wj]
  ·have e:j=(nth N 0).up.q.length:=by omega
   subst e;have hw0:(jX N 0 (nth N 0).up.q.length).ns.length=1/\cN (jX N 0 (nth N 0).up.q.length) (B+768*kk+384):=JT q1 q2 (w:=0) (.inl rfl);generalize hW:jX N 0 (nth N 0).up.q.length=W at hw0⊢;obtain⟨p1,p2⟩:=hw0;refine dE.s ?_;simp;refine CI.cc [0,1,2] (Bu W) ?_;simp;refine aQ.inv mixed rfl (ι:={j:Nat//j<=(nth W 0).dn.q.length}) (fun k=>[(0,.ptr 0 0),(1,int r),(4,int kk),(5,int 0),(6,int 1),(7,.ptr 2305 0),(9,int k.1)]) (fun k=>B1 (jX W 1 k.1)++[(2305,.cells ((kR (nth W 0).dn).map .d) 108)]) 2306 (fun k=>(nth W 0).dn.q.length-k.1) ⟨0,by omega⟩ [] (by constructor<;>simp[jX]) ?_;rintro⟨j,hj⟩ B1 hB1;have hlen:(nth W 0).dn.q.length<=32:=K2 p1 p2 1;refine CI.n ?_;simp;refine aJ (fun h2=>?_) (fun h2=>?_)<;>simp only[h2]<;>simp<;>(try simp only[nT,nF,dT,dF]at h2)
   ·have hb:=JU p1 p2 (w:=1) (by omega) j;have wj:IntKind.wrap .i64 ((j:Int)+1)=j+1:=wrap_i64 (by omega) (by omega);generalize hbk:jX W 1 j=K at hb⊢;refine CI.j [0,1,2] (DY K (l6 1) _ hb.1 hb.2 (by omega) (L2 1)) ?_ (ha:=by simp[l6,cQ]) (hk:=by simp[l6,cQ]);simp[l6,cQ];refine hB1 _ ⟨j+1,by omega⟩ [] ?_ (by simp;omega);constructor<;>simp[jX,hbk,l6,cQ,wj]
   ·have e:j=(nth W 0).dn.q.length:=by omega
    subst e;have hw1:(jX W 1 (nth W 0).dn.q.length).ns.length=1/\cN (jX W 1 (nth W 0).dn.q.length) (B+768*kk+384+384):=JT p1 p2 (w:=1) (.inr rfl);have hR:oH M (kk+1)=jX W 1 (nth W 0).dn.q.length:=by
     have e1:oH M (kk+1)=BE (BE (oH M kk) 0) 1:=rfl;have e2:BE (oH M kk) 0=W:=by rw[hN,<-hW];rfl
     rw[e1,e2];rfl
    rw[<-hR]at hw1⊢;generalize hV:oH M (kk+1)=V at hw1⊢;have wk:IntKind.wrap .i64 ((kk:Int)+1)=kk+1:=wrap_i64 (by omega) (by omega);refine dE.s ?_;simp;refine dE.s ?_;simp;refine CI.cc [0,1,2] (LJ V) ?_;simp;refine hB _ ⟨kk+1,by omega⟩ [] ?_ (by simp;omega);constructor<;>simp[wk,hV]
 ·have e:kk=r:=by omega
  subst e;exact⟨[],by constructor<;>simp[aV,aW]⟩
theorem b8t :cO eY prog 23 [.ptr 0 0,int 8] [] (B1 E8) (.bI []) (B1 C6):=ziW E8 8 24 RC QG (by omega) (by omega)
theorem zad :Ct prog 34 [] [] [] (aC (FT.map aK)) []:=by
 refine Ct.B func34 ?_;simp;refine CI.L1 [256] 99 400 rfl rfl (by first|exact .inl rfl|exact .inr ⟨_,_,rfl,by simp⟩|exact .inr ⟨_,_,rfl,by simp[*]⟩) (by simp) ?_;simp[zO,pX];refine CI.L1 [384,576] 99 400 rfl rfl (by first|exact .inl rfl|exact .inr ⟨_,_,rfl,by simp⟩|exact .inr ⟨_,_,rfl,by simp[*]⟩) (by simp) ?_;simp[zO,pX];exact aB (by simp[FT]) rfl
theorem ND :cO eY prog 7 [] [] [] (bool true) []:=by
 refine cO.B lZ func7 ?_;simp;refine CI.cc [] Lf ?_;simp;refine CI.j [192,193,194] Fx ?_;simp;refine CI.p zad ?_;simp;refine CI.j [192,193,194] Fy ?_;simp;refine CI.j [192,193,194] b8t ?_;simp;refine CI.j [192,193,194] Fw ?_;simp;rw[show J3=aG 0 from rfl];refine aQ.rounds 6 ?_;refine dE.s ?_;simp;refine CI.j [192,193,194] (AO 0 (by omega)) ?_;simp;refine dE.s ?_;simp;refine CI.j [192,193,194] (AO 1 (by omega)) ?_;simp;refine dE.s ?_;simp;refine CI.j [192,193,194] (AO 2 (by omega)) ?_;simp;refine dE.s ?_;simp;refine CI.j [192,193,194] (AO 3 (by omega)) ?_;simp;refine dE.s ?_;simp;refine CI.j [192,193,194] (AO 4 (by omega)) ?_;simp;have a1:(aO 5).n=1:=E4.1;have a2:(aO 5).iT.nD=3:=by rw[E4.2]
 have a3:(aO 5).iT.gI=⟨#[99]⟩:=by rw[E4.2]
 have a4:(aO 5).iT.host=7:=by rw[E4.2]
 refine dE.s ?_;simp[Tt,Tr,a1,a2,a3,a4];refine CI.cc [192,193,194] (Ej (aG 5) _ (RA 5) (QF 5)) ?_;simp;exact aB (by simp[Sm]) rfl
theorem MX (l:List bJ)(ha:∀s∈l,dK s.aD)(hl:l.length<=9223372036854775807):Ct prog 8 [aC (l.map cZ)] [] [] (bool (mJ l)) []:=by
 refine Ct.B func8 ?_;simp;refine CI.p (Qh l ha hl) ?_;simp;cases h1:mJ l with
 |false=>
  simp[h1];exact aB (by simp[h1]) rfl
 |true=>
  have h2:(l.length:Int)<=60:=by simp[mJ]at h1;omega
  simp[h1,h2];exact aB (by simp[h1]) rfl
theorem Dh (l:List bJ)(hl:l.length<=1000000):Ct prog 11 [aC (l.map cZ)] [] [] (aC (l.map cZ)) []:=by
 refine Ct.B func11 ?_;simp;refine aQ.j1 3 11 48 rfl ?_;refine aQ.V (l) (fun k=>[(0,aC (l.map cZ)),(3,.own 64),(4,int k.1)]) (fun k=>[(64,.grow 11 ((l.take k.1).map cZ) 48)]) 65 (fun k hk1 B hB=>?_);simp;refine aJ (fun h=>?_) (fun h=>?_)
 ·have hk:k<(l).length:=by simpa using h
  obtain⟨x,hx,hr,hm,ht,hd,hw⟩:=dL hk;simp only[h];simp[hr,hw];refine⟨by omega,?_⟩;refine⟨by decide+kernel,?_⟩;exact hB hk (by constructor<;>simp[hw,ht])
 ·obtain rfl:k=(l).length:=by simp at h;omega
  simp only[h];simp;exact aB (by simp) rfl
theorem Rh (c:bS):Ct prog 10 [st (jR c)] [] [] (st (jR c)) []:=by
 refine Ct.B func10 ?_;simp;exact aB (by simp) rfl
end Go.Proofs.YtegplpagkajolaaGreatDoor
