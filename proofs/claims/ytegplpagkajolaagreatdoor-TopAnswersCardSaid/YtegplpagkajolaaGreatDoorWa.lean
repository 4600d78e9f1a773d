/-
  LAYERS 1 to 3: the walks of names, hosts, paths, and of what is wrong with a resource, of the program and of the reference.
-/
import Derived.Test.YtegplpagkajolaaGreatDoorTy
import Derived.Test.YtegplpagkajolaaGreatDoorPl
import Derived.Test.YtegplpagkajolaaGreatDoorFc
import Derived.Test.YtegplpagkajolaaGreatDoorFd
set_option linter.unusedSimpArgs false
set_option linter.unusedVariables false
set_option maxRecDepth 100000
set_option maxHeartbeats 8000000
namespace Go.Proofs.YtegplpagkajolaaGreatDoor
open Go.AI Go.G Tryz
theorem mixed :prog.follows .mixedOrders=true:=by kernel_rfl
attribute [simp] ntmps102 results102 ntmps330 results330 ntmps258 results258 ntmps255 results255 ntmps264 results264 ntmps192 results192 ntmps329 results329 ntmps254 results254 ntmps195 results195
theorem Xw (a b:cH):Ct prog 153 [str a,str b] [] [] (int (C0 a b)) []:=Ct.pure (xs:=[.string a,.string b]) (fun w=>Tryz.strings_Compare a b w)
theorem zin (a b:cH):Ct prog 102 [str a,str b] [] [] (int (C0 a b)) []:=by
 refine Ct.B func102 ?_;simp;refine CI.p (Xw a b) ?_;simp;exact aB (by simp) rfl
theorem Mm (c:Int):Ct prog 330 [.d (.v (.int .i32 c))] [] [] (bool (MD c)) []:=by
 refine Ct.B func330 ?_;simp
 repeat' first
  | (refine bX (fun h=>?_) (fun h=>?_)<;>simp only[h]<;>simp[h])
  | (refine aJ (fun h=>?_) (fun h=>?_)<;>simp only[h]<;>simp[h])
  | (refine⟨(show nY _ _ from by decide+kernel),?_⟩)
  |fail
 all_goals exact aB (by simp[*,MD]) rfl
theorem PV (c:Int):Ct prog 258 [.d (.v (.int .i32 c))] [] [] (bool (L0 c)) []:=by
 refine Ct.B func258 ?_;simp;refine CI.p (Mm c) ?_;simp
 repeat' first
  | (refine bX (fun h=>?_) (fun h=>?_)<;>simp only[h]<;>simp[h])
  | (refine aJ (fun h=>?_) (fun h=>?_)<;>simp only[h]<;>simp[h])
  | (refine⟨(show nY _ _ from by decide+kernel),?_⟩)
  |fail
 all_goals exact aB (by simp[*,L0]) rfl
theorem hasPrefix (s p:cH):Ct prog 255 [str s,str p] [] [] (bool (decide ((bs p).length<=(bs s).length)&&decide ((bs s).take (bs p).length=bs p))) []:=by
 refine Ct.B func255 ?_;simp;have hs:=mD s;have hp:=mD p;refine bX (fun h1=>?_) (fun h1=>?_)<;>simp only[h1]<;>simp[hs,hp]
 ·have h1':(bs p).length<=(bs s).length:=by have:=xD h1;omega
  refine⟨by omega,?_⟩;exact aB (by simp[h1',OP,JS]) rfl
 ·have h1':¬(bs p).length<=(bs s).length:=by have:=HF h1;omega
  exact aB (by simp[h1']) rfl
theorem IU (s:cH):Ct prog 264 [str s] [] [] (bool (kH s)) []:=by
 refine Ct.B func264 ?_;simp;have hsz:=mD s;refine aJ (fun h1=>?_) (fun h1=>?_)<;>simp only[h1]<;>simp[hsz]
 ·have hz:¬((bs s).length<=12):=by have:=xD h1;omega
  exact aB (by simp[kH,r8,hz]) rfl
 have hz:(bs s).length<=12:=by have:=HF h1;omega
 refine aQ.inv mixed rfl (ι:={k:Nat//k<=(bs s).length/\((bs s).take k).all xZ=true/\(1<=k->EU ((bs s).headD 0)=true)}) (fun k=>[(0,str s),(9,.own 64)]) (fun k=>[(64,.iter s k.1)]) 65 (fun k=>(bs s).length-k.1) ⟨0,by omega,by simp,by omega⟩ [] (by constructor<;>simp) ?_;rintro⟨k,hk1,hi,hl⟩ B hB;by_cases hk:k<(bs s).length
 ·have hr:(bs s)[k]? =some (bs s)[k]:=cI hk;have hm:(bs s)[k]∈(bs s):=lU hk;have ht:(bs s).take (k+1)=(bs s).take k++[(bs s)[k]]:=by rw[nZ,hr];rfl
  have h0:k=0->(bs s).headD 0=(bs s)[k]:=by
   intro e;simp only[e,List.headD_eq_head?_getD,List.head?_eq_getElem?];rw[cI (by omega)];rfl
  generalize(bs s)[k]=c at hr hm ht h0;by_cases hc:c.toNat<128
  ·refine CI.n ?_;simp[hsz,hk,Qz hr hc];refine CI.p (PV c.toNat) ?_;simp;refine bX (fun h2=>?_) (fun h2=>?_)<;>simp only[h2]<;>simp
   ·have h2':(bs s).all xZ=false:=by
     rw[B4];exact⟨c,hm,by simpa using h2⟩
    exact aB (by simp[kH,r8,h2']) rfl
   have h2':xZ c=true:=by simpa using h2
   refine bX (fun h3=>?_) (fun h3=>?_)<;>simp only[h3]<;>simp
   ·have hk0:k=0:=by have:=xD h3;omega
    refine CI.p (Mm c.toNat) ?_;simp;refine aJ (fun h4=>?_) (fun h4=>?_)<;>simp only[h4]<;>simp
    ·have h4':EU c=false:=by simpa using h4
     have h5:(bs s).head?.getD 0=c:=by rw[<-List.headD_eq_head?_getD];exact h0 hk0
     exact aB (by simp[kH,r8,h5,h4']) rfl
    ·have h4':EU c=true:=by simpa using h4
     refine hB _ ⟨k+1,by omega,by simp[ht,hi,h2'],fun _=>by rw[h0 hk0];exact h4'⟩ [] ?_ (by simp;omega);constructor<;>simp
   ·have hk0:1<=k:=by have:=HF h3;omega
    refine hB _ ⟨k+1,by omega,by simp[ht,hi,h2'],fun _=>hl hk0⟩ [] ?_ (by simp;omega);constructor<;>simp
  ·have hu:=Rc hr (by omega);have hv:xZ c=false:=by
    cases hv:xZ c
    ·rfl
    ·exact absurd (Ip hv) hc
   have h2':(bs s).all xZ=false:=by
    rw[B4];exact⟨c,hm,by simp[hv]⟩
   refine CI.n ?_;simp[hsz,hk];refine CI.p (PV (Utf8.decode s k).1) ?_;simp;rw[Ic hu];simp;exact aB (by simp[kH,r8,h2']) rfl
 ·have hkl:k=(bs s).length:=by omega
  rw[hkl,fA]at hi;refine CI.n ?_;simp[hsz,hk,hkl];cases hb:bs s with
  |nil=>
   have e:s=⟨#[]⟩:=JR (by rw[hb];rfl);subst e;exact aB (by simp[kH,r8,hb]) rfl
  |cons a l=>
   have hne:¬s=⟨#[]⟩:=by
    intro e;subst e;cases hb
   have e:kH s=true:=by
    have h5:=hl (by rw[hkl,hb];simp);have h6:1<=(bs s).length:=by rw[hb];simp
    simp only[kH,r8,hi,hz,h5,h6,yT,tU]
   exact aB (by simp[e,hne]) rfl
theorem Oq (s p:cH):Ct prog 192 [str s,str p] [] [] (bool (decide ((bs p).length<=(bs s).length)&&decide ((bs s).take (bs p).length=bs p))) []:=by
 refine Ct.B func192 ?_;simp;refine CI.p (hasPrefix s p) ?_;simp;exact aB (by simp) rfl
def FM (s p:cH):cH:=if(decide ((bs p).length<=(bs s).length)&&decide ((bs s).take (bs p).length=bs p))=true then s.extract (bs p).length s.size else s
theorem trimPrefix (s p:cH):Ct prog 329 [str s,str p] [] [] (str (FM s p)) []:=by
 refine Ct.B func329 ?_;simp;have hs:=mD s;have hp:=mD p;refine CI.p (hasPrefix s p) ?_;simp;generalize hq:(decide ((bs p).length<=(bs s).length)&&decide ((bs s).take (bs p).length=bs p))=q;refine aJ (fun h1=>?_) (fun h1=>?_)<;>simp only[h1]<;>simp[hs,hp]
 ·have h1':(bs p).length<=(bs s).length:=by
   rw[h1,bN]at hq;exact xD hq.1
  refine⟨by omega,?_⟩;exact aB (by simp[FM,hq,h1,hs]) rfl
 ·exact aB (by simp[FM,hq,h1]) rfl
theorem Vs (s p:cH):Ct prog 254 [str s,str p] [] [] (str (FM s p)) []:=by
 refine Ct.B func254 ?_;simp;refine CI.p (trimPrefix s p) ?_;simp;exact aB (by simp) rfl
theorem WR (s:cH):Ct prog 195 [str s] [] [] (bool (xY s)) []:=by
 refine Ct.B func195 ?_;simp;have hsz:=mD s;refine aQ.inv mixed rfl (ι:={k:Nat//k<=(bs s).length/\((bs s).take k).all y7=true}) (fun k=>[(0,str s),(6,.own 64)]) (fun k=>[(64,.iter s k.1)]) 65 (fun k=>(bs s).length-k.1) ⟨0,by omega,by simp⟩ [] (by constructor<;>simp) ?_;rintro⟨k,hk1,hi⟩ B hB;by_cases hk:k<(bs s).length
 ·have hr:(bs s)[k]? =some (bs s)[k]:=cI hk;have hm:(bs s)[k]∈(bs s):=lU hk;have ht:(bs s).take (k+1)=(bs s).take k++[(bs s)[k]]:=by rw[nZ,hr];rfl
  generalize(bs s)[k]=c at hr hm ht;by_cases hc:c.toNat<128
  ·refine CI.n ?_;simp[hsz,hk,Qz hr hc];refine CI.p (PV c.toNat) ?_;simp;refine bX (fun h2=>?_) (fun h2=>?_)<;>simp only[h2]<;>simp
   ·refine aJ (fun h3=>?_) (fun h3=>?_)<;>simp only[h3]<;>simp
    ·have h2':(bs s).all y7=false:=by
      rw[B4];exact⟨c,hm,by simp[y7]at h2 h3⊢;exact⟨h2,by omega⟩⟩
     exact aB (by simp[xY,h2']) rfl
    ·have h2':y7 c=true:=by simp[y7]at h2 h3⊢;exact .inr (by omega)
     refine hB _ ⟨k+1,by omega,by simp[ht,hi,h2']⟩ [] ?_ (by simp;omega);constructor<;>simp
   ·have h2':y7 c=true:=by simp[y7]at h2⊢;exact .inl h2
    refine hB _ ⟨k+1,by omega,by simp[ht,hi,h2']⟩ [] ?_ (by simp;omega);constructor<;>simp
  ·have hu:=Rc hr (by omega);have hv:y7 c=false:=by
    cases hv:xZ c
    ·simp[y7,hv];omega
    ·exact absurd (Ip hv) hc
   have h2':(bs s).all y7=false:=by
    rw[B4];exact⟨c,hm,by simp[hv]⟩
   have hn:¬((Utf8.decode s k).1:Int)=47:=by omega
   refine CI.n ?_;simp[hsz,hk];refine CI.p (PV (Utf8.decode s k).1) ?_;simp;rw[Ic hu];simp[hn];exact aB (by simp[xY,h2']) rfl
 ·have hkl:k=(bs s).length:=by omega
  rw[hkl,fA]at hi;refine CI.n ?_;simp[hsz,hk,hkl];refine bX (fun h1=>?_) (fun h1=>?_)<;>simp only[h1]<;>simp
  ·refine CI.p (Oq s ⟨#[47]⟩) ?_;simp;have hz:(bs s).length<=40:=by have:=xD h1;omega
   have e:xY s=(decide ((bs ⟨#[47]⟩).length<=(bs s).length)&&decide ((bs s).take (bs ⟨#[47]⟩).length=bs ⟨#[47]⟩)):=by
    rw[show bs ⟨#[47]⟩=[47]from rfl];simp only[xY,hi,hz];cases hb:bs s with
    |nil=>rfl
    |cons a l=>simp[<-UInt8.toNat_inj]
   exact aB (by simp[e]) rfl
  ·have hz:¬((bs s).length<=40):=by have:=HF h1;omega
   exact aB (by simp[xY,hz]) rfl
end Go.Proofs.YtegplpagkajolaaGreatDoor
section
open Go.RowKit Go.Shelf
namespace Go.Proofs.YtegplpagkajolaaGreatDoor
open Go.AI Go.G Tryz
attribute [local go_sem] Oper.semAt_some
theorem Zq (s p:cH)(n:Int)(w:World):Calls prog 382 #[.string s,.string p,.int .i64 n] w fun e w'=>e=.returned (.func (.func 410) #[] #[.pointer (some ⟨w.heap.size+1,0,none⟩),.pointer (some ⟨w.heap.size,0,none⟩),.pointer (some ⟨w.heap.size+2,0,none⟩)])/\w'=((w.alloc (.cells #[.string s] 9)).alloc (.cells #[.string p] 9)).alloc (.cells #[.int .i64 n] 3):=by
 go_enter func382,ntmps382
 go_wp2
 go_ret
 exact⟨rfl,rfl⟩
theorem zkQ (s p:cH)(w:World):Calls prog 328 #[.string s,.string p] w fun e w'=>e=.returned (.func (.func 410) #[] #[.pointer (some ⟨w.heap.size+1,0,none⟩),.pointer (some ⟨w.heap.size,0,none⟩),.pointer (some ⟨w.heap.size+2,0,none⟩)])/\w'=((w.alloc (.cells #[.string s] 9)).alloc (.cells #[.string p] 9)).alloc (.cells #[.int .i64 0] 3):=by
 go_enter func328,ntmps328
 go_wp2_with (go_at_call 382;refine(Zq _ _ _ _).mono ?_;rintro e w' ⟨rfl,rfl⟩)
 go_ret
 exact⟨rfl,rfl⟩
structure lF (w:World)(rest:cH)(lp:Loop)(W:World):Prop where
 b0:W.heap[w.heap.size]? =some (.cells #[.bool false] 4 (0,0))
 b1:W.heap[w.heap.size+1]? =some (.cells #[.string rest] 9 (0,0))
 b2:W.heap[w.heap.size+2]? =some (.cells #[.string ⟨#[46]⟩] 9 (0,0))
 b3:W.heap[w.heap.size+3]? =some (.cells #[.int .i64 0] 3 (0,0))
 b4:W.heap[w.heap.size+4]? =some (.deferred (some []))
 b5:W.heap[w.heap.size+5]? =some (.loop lp)
 below:Below w.heap.size w W
 dr:w.drawn<=W.drawn
theorem wX {W:World}{B:Nat}{v:Value}{t:TypeId}(h:W.heap[B]? =some (.cells #[v] t (0,0))):W.cell? ⟨B,0,none⟩=some v/\W.frozen? ⟨B,0,none⟩=false:=by
 constructor<;>simp[World.cell?,World.frozen?,h]
theorem S8 {W:World}{B:Nat}{v:Value}{t:TypeId}(h:W.heap[B]? =some (.cells #[v] t (0,0)))(x:Value):(W.setCell ⟨B,0,none⟩ x).heap[B]? =some (.cells #[x] t (0,0)):=by
 obtain⟨hlt,hk⟩:=qX.1 h;show(W.heap.modify B _)[B]? =_;rw[tV (by rw[Array.size_modify];exact hlt),Array.getElem_modify_self,hk];rfl
theorem yQ {W:World}{B k:Nat}(x:Value)(h:k≠B):(W.setCell ⟨B,0,none⟩ x).heap[k]? =W.heap[k]? :=Below.heap_setCell W ⟨B,0,none⟩ x k h
section
variable {w W W' : World} {rest : cH} {lp : Loop}
theorem lF.lt (h:lF w rest lp W):w.heap.size+5<W.heap.size:=(qX.1 h.b5).1
theorem lF.grow (h:lF w rest lp W)(hb:Below W.heap.size W W')(hd:W.drawn<=W'.drawn):lF w rest lp W':=by
 have:=h.lt;exact⟨(hb.block _ (by omega)).trans h.b0,(hb.block _ (by omega)).trans h.b1,(hb.block _ (by omega)).trans h.b2,(hb.block _ (by omega)).trans h.b3,(hb.block _ (by omega)).trans h.b4,(hb.block _ (by omega)).trans h.b5,h.below.trans (hb.mono h.below.size),fV h.dr hd⟩
theorem lF.En (h:lF w rest lp W)(r:cH):lF w r lp (W.setCell ⟨w.heap.size+1,0,none⟩ (.string r)):=
 ⟨(yQ _ (by omega)).trans h.b0,S8 h.b1 _,(yQ _ (by omega)).trans h.b2,(yQ _ (by omega)).trans h.b3,(yQ _ (by omega)).trans h.b4,(yQ _ (by omega)).trans h.b5,h.below.setCell (p:=⟨w.heap.size+1,0,none⟩) (by simp) _,h.dr⟩
theorem lF.Eo (h:lF w rest lp W):lF w rest lp (W.setCell ⟨w.heap.size,0,none⟩ (.bool false)):=
 ⟨S8 h.b0 _,(yQ _ (by omega)).trans h.b1,(yQ _ (by omega)).trans h.b2,(yQ _ (by omega)).trans h.b3,(yQ _ (by omega)).trans h.b4,(yQ _ (by omega)).trans h.b5,h.below.setCell (p:=⟨w.heap.size,0,none⟩) (by simp) _,h.dr⟩
theorem Below.put {B l:Nat}{w W:World}(h:Below B w W)(o:Obj)(hl:B<=l):Below B w (W.putObj l o):=
 ⟨h.os,h.tape,h.output,by simpa using h.size,fun k hk=>(World.putObj_heap_other (by omega)).trans (h.block k hk)⟩
theorem lF.put (h:lF w rest lp W)(lq:Loop):lF w rest lq (W.putObj (w.heap.size+5) (.loop lq)):=
 ⟨(World.putObj_heap_other (by omega)).trans h.b0,(World.putObj_heap_other (by omega)).trans h.b1,(World.putObj_heap_other (by omega)).trans h.b2,(World.putObj_heap_other (by omega)).trans h.b3,(World.putObj_heap_other (by omega)).trans h.b4,World.putObj_heap_same h.lt,Below.put h.below _ (by omega),h.dr⟩
end
end Go.Proofs.YtegplpagkajolaaGreatDoor
end
section
namespace Go.G
open Go.AI
theorem Li :∀(l p:List UInt8) (i:Int),Lib.indexByte l 46=i->(i<0->oV p l=r8 (p++l))/\(0<=i->oV p l=(r8 (p++l.take i.toNat)&&oV [] (l.drop (i.toNat+1))))
 |[],p,i,h=>by
  simp[Lib.indexByte]at h;subst h;simp[oV]
 |c::l,p,i,h=>by
  simp only[Lib.indexByte]at h;by_cases hc:c=46
  ·subst hc;simp at h;subst h;simp[oV]
  ·have hc':(c==46)=false:=by simpa using hc
   have ih:=Li l (p++[c]) (Lib.indexByte l 46) rfl;have h1:=Lib.indexByte_ge l 46;simp only[hc']at h;by_cases h2:Lib.indexByte l 46<0
   ·have e:Lib.indexByte l 46= -1:=by omega
    rw[e]at h;have:i= -1:=by simpa using h.symm
    subst this;exact⟨fun _=>by rw[oV,aH hc,ih.1 h2];simp,fun h=>by omega⟩
   ·obtain⟨k,hk⟩:∃k:Nat,Lib.indexByte l 46=k:=⟨(Lib.indexByte l 46).toNat,by omega⟩;rw[hk]at h ih;have e:i=((k+1:Nat):Int):=by
     have:¬(k:Int)<0:=by omega
     simp[this]at h;omega
    subst e;refine⟨fun h=>by omega,fun _=>?_⟩;rw[oV,aH hc,ih.2 (by omega)];simp
end Go.G
open Go.RowKit Go.Shelf
namespace Go.Proofs.YtegplpagkajolaaGreatDoor
open Go.AI Go.G Tryz
attribute [local go_sem] Oper.semAt_some
theorem zjb {σ σ':Names}{I I':Nat->Prop}{w w':World}{nm:Nat}{m':Mem}(hp:fK σ I w (bE []) nm σ' I' w' m'):Below w.heap.size w w':=
 ⟨hp.os,hp.tape,hp.output.eq,hp.size,fun k hk=>hp.frame k hk (by rintro⟨b,_,_,hb,_⟩;simp[bE]at hb)⟩
theorem Ln (s:cH)(w:World):Calls prog 264 #[.string s] w fun e w'=>e=.returned (.bool (kH s))/\Below w.heap.size w w'/\w.drawn<=w'.drawn:=by
 refine(IU s (fun _=>none) (fun n=>n<w.heap.size) w [.string s] (fun _ h=>h) rfl (fun i c x h1 h2=>?_) ⟨fun b k hb=>by simp[bE]at hb,fun b b' k k' x x' n hb=>by simp[bE]at hb⟩ (fun _ _=>rfl)).mono ?_
 ·match i with
  |0=>simp at h1 h2;subst h1;subst h2;exact .d (.v _)
  |i+1=>simp at h1
 ·rintro e w' ⟨v,σ',I',rfl,hp,hv⟩;cases hv with
  |d hd=>cases hd with
   |v=>exact⟨rfl,zjb hp,hp.output.drawn⟩
def XF (H:Nat)(W:World):Nat:=match W.cell? ⟨H+1,0,none⟩with
 |some (.string s)=>s.size
 |_=>0
theorem Kv {w W:World}{rest:cH}{r:Loop}(h:lF w rest r W):XF w.heap.size W=rest.size:=by
 simp[XF,(wX h.b1).1]
def Ty (w:World)(rest:cH)(r:Loop)(x:cH)(e:Ending)(W':World):Prop:=(e=.returned (.bool true)/\kH x=true/\lF w rest r W')\/(e=.returned (.bool false)/\kH x=false/\∃q:Loop,q.state=.done/\q.pending=some .ret/\lF w rest q W')
abbrev zkW (w:World)(r:Loop)(t:Bool)(W:World):Prop:=(t=true/\∃rest,lF w rest r W)\/(t=false/\∃rest,∃q:Loop,q.state=.done/\q.pending=some .ret/\lF w rest q W)
set_option maxRecDepth 100000 in
set_option maxHeartbeats 2000000 in
theorem zeB (m:Nat)(hm:1<=m)(w:World)(s:cH)(r:Loop)(hs:(bs s).length<=40)
  (hY:∀W rest x,lF w rest r W->YieldAt Fence.wide (m-1) prog (w.heap.size+5) #[.string x] W (Ty w rest r x))
  (W:World) (h:lF w s r W):
  CallsIn Fence.wide m prog 410 #[.func (.yield (w.heap.size+5)) #[] #[],.pointer (some ⟨w.heap.size+2,0,none⟩),.pointer (some ⟨w.heap.size+1,0,none⟩),.pointer (some ⟨w.heap.size+3,0,none⟩)] W fun e W'=>(∃v,e=.returned v)/\zkW w r (oV [] (bs s)) W':=by
 refine callsIn_of_wp func410 rfl trivial ?_ rfl;simp only[ntmps410,KG,kE,l7,Nat.reduceAdd,Nat.reduceSub,Array.replicate_succ,Array.replicate_zero,List.push_toArray,List.append_toArray,DK,BY];have c2:=(wX h.b2).1
 gi_wp2
 gi_loopw [7] (fun _ wr=>∃rest,lF w rest r wr/\oV [] (bs rest)=oV [] (bs s)/\(bs rest).length<=40) (fun _ wr=>XF w.heap.size wr)
 case atStart=>exact⟨s,h,rfl,hs⟩
 case round=>
  obtain⟨rest,hr,hg,hl⟩:=hrel;clear c2;have d1:=(wX hr.b1).1;have d2:=(wX hr.b2).1;have d3:=(wX hr.b3).1;have hsp:=Li (bs rest) [] _ rfl;have hge:=Lib.indexByte_ge (bs rest) 46;have hsz:=mD rest;unfold bs at hsp hge;by_cases hi:Lib.indexByte rest.data.toList 46<0
  ·obtain⟨f1,t1,a1,b1,hy1,hR1⟩:=hY wr rest rest hr
   gi_wp2_with (refine⟨trivial,?_⟩;gi_at_call 412;refine(FF.2 (Tryz.strings_Index_one rest 46 _)).mono ?_;rintro e w' ⟨rfl,rfl⟩)
   refine hR1.mono ?_;have e1:oV [] (bs s)=kH rest:=by rw[<-hg];exact hsp.1 hi
   rintro e W3 (⟨rfl,hn,h3⟩|⟨rfl,hn,q,hq1,hq2,hq⟩)
   ·gi_wp2
    go_end0
    exact⟨⟨_,rfl⟩,.inl ⟨e1.trans hn,rest,h3⟩⟩
   ·gi_wp2
    go_end0
    exact⟨⟨_,rfl⟩,.inr ⟨e1.trans hn,rest,q,hq1,hq2,hq⟩⟩
  ·obtain⟨k,hk⟩:∃k:Nat,Lib.indexByte rest.data.toList 46=k:=⟨(Lib.indexByte rest.data.toList 46).toNat,by omega⟩;have hkl:k<rest.size:=by
    rw[hsz];exact(cC.1 (Lib.indexByte_some hk).1).1
   have hidx:∀(j:Nat) (w:World),CallsIn Fence.wide j prog 412 #[.string rest,.string ⟨#[46]⟩] w fun e w'=>e=.returned (.int .i64 k)/\w'=w:=by
    intro j w;rw[<-hk];exact FF.2 (Tryz.strings_Index_one rest 46 _)
   have H1:=hsp.2 (by omega);rw[hk]at H1;have H2:oV [] (bs s)=(kH (rest.extract 0 k)&&oV [] (bs (rest.extract (k+1) rest.size))):=by
    rw[<-hg];refine H1.trans ?_;rw[JS,kH,JS,hsz,fA];simp[bs]
   have H3:(bs (rest.extract (k+1) rest.size)).length<=40:=by rw[JS,hsz,fA,KM];omega
   have H4:(rest.extract (k+1) rest.size).size<rest.size:=by simp;omega
   have H5:rest.size<=40:=by omega
   clear H1 hsp hge hsz hk hi;obtain⟨f1,t1,a1,b1,hy1,hR1⟩:=hY wr rest (rest.extract 0 k) hr
   gi_wp2_with (refine⟨trivial,?_⟩;gi_at_call 412;refine(hidx _ _).mono ?_;rintro e w' ⟨rfl,rfl⟩)
   refine hR1.mono ?_;clear d1 d2 d3;rintro e W3 (⟨rfl,hn,h3⟩|⟨rfl,hn,q,hq1,hq2,hq⟩)
   ·obtain⟨d1,d4⟩:=wX h3.b1;have d2:=(wX h3.b2).1
    gi_wp2
    go_roundw
    case rel=>exact⟨rest.extract (k+1) rest.size,h3.En _,by rw[H2,hn];rfl,H3⟩
    case measure=>rw[Kv (h3.En _),Kv hr];exact H4
   ·gi_wp2
    refine bodyPost_ret (results_none rfl _ _ _) rfl ?_;exact⟨⟨_,rfl⟩,.inr ⟨by rw[H2,hn];rfl,rest,q,hq1,hq2,hq⟩⟩
set_option maxRecDepth 100000 in
set_option maxHeartbeats 2000000 in
theorem zeR (s:cH)(hs:(bs s).length<=40)(w:World):Calls prog 253 #[.string s] w fun e w'=>e=.returned (.bool (oV [] (bs s)))/\Below w.heap.size w w'/\w.drawn<=w'.drawn:=by
 refine(FF (n:=4)).1 ?_;refine callsIn_of_wp_marks func253 rfl trivial ?_ rfl;simp only[ntmps253,KG,kE,l7,Nat.reduceAdd,Nat.reduceSub,Array.replicate_succ,Array.replicate_zero,List.push_toArray,List.append_toArray,DK,BY]
 gi_wp2_with (refine⟨trivial,?_⟩;gi_at_call 328;refine(FF.2 (zkQ _ _ _)).mono ?_;rintro e w' ⟨rfl,rfl⟩)
 obtain⟨W0,hW0⟩:∃W0,(((w.alloc (.cells #[.bool false] 4)).alloc (.cells #[.string s] 9)).alloc (.cells #[.string ⟨#[46]⟩] 9)).alloc (.cells #[.int .i64 0] 3)=W0:=⟨_,rfl⟩;have hs0:W0.heap.size=w.heap.size+4:=by rw[<-hW0];simp
 have k0:W0.heap[w.heap.size]? =some (.cells #[.bool false] 4 (0,0)):=by
  rw[<-hW0];exact(((Below.heap_alloc _ _ _ (by simp;omega)).trans (Below.heap_alloc _ _ _ (by simp;omega))).trans (Below.heap_alloc _ _ _ (by simp))).trans (World.alloc_heap_new w _)
 have k1:W0.heap[w.heap.size+1]? =some (.cells #[.string s] 9 (0,0)):=by
  rw[<-hW0];refine((Below.heap_alloc _ _ _ (by simp)).trans (Below.heap_alloc _ _ _ (by simp))).trans ?_;have:=World.alloc_heap_new (w.alloc (.cells #[.bool false] 4)) (.cells #[.string s] 9);rwa[HG]at this
 have k2:W0.heap[w.heap.size+2]? =some (.cells #[.string ⟨#[46]⟩] 9 (0,0)):=by
  rw[<-hW0];refine(Below.heap_alloc _ _ _ (by simp)).trans ?_;have:=World.alloc_heap_new ((w.alloc (.cells #[.bool false] 4)).alloc (.cells #[.string s] 9)) (.cells #[.string ⟨#[46]⟩] 9);rwa[HG,HG]at this
 have k3:W0.heap[w.heap.size+3]? =some (.cells #[.int .i64 0] 3 (0,0)):=by
  rw[<-hW0];have:=World.alloc_heap_new (((w.alloc (.cells #[.bool false] 4)).alloc (.cells #[.string s] 9)).alloc (.cells #[.string ⟨#[46]⟩] 9)) (.cells #[.int .i64 0] 3);rwa[HG,HG,HG]at this
 have kb:Below w.heap.size w W0:=by
  rw[<-hW0];exact((((Below.refl _ w).alloc (cM _) _).alloc (by simp) _).alloc (by simp;omega) _).alloc (by simp;omega) _
 have kd:w.drawn<=W0.drawn:=by rw[<-hW0];exact cM _
 rw[hW0];clear hW0;refine Gr rfl (by omega) rfl trivial (enters_of func410 (by kernel_rfl) rfl) ?_;rintro fn hfn r hr;rw[hs0]at hr⊢;have k5:((W0.alloc (.deferred (some []))).alloc (.loop r)).heap[w.heap.size+5]? =some (.loop r):=by
  have:=World.alloc_heap_new (W0.alloc (.deferred (some []))) (.loop r);rwa[HG,hs0]at this
 have hold:∀k,k<w.heap.size+4->((W0.alloc (.deferred (some []))).alloc (.loop r)).heap[k]? =W0.heap[k]? :=fun k hk=>
  (Below.heap_alloc _ _ k (by simp;omega)).trans (Below.heap_alloc _ _ k (by omega))
 have k4:((W0.alloc (.deferred (some []))).alloc (.loop r)).heap[w.heap.size+4]? =some (.deferred (some [])):=by
  refine(Below.heap_alloc _ _ _ (by simp;omega)).trans ?_;have:=World.alloc_heap_new W0 (.deferred (some []));rwa[hs0]at this
 have hN:lF w s r ((W0.alloc (.deferred (some []))).alloc (.loop r)):=
  ⟨(hold _ (by omega)).trans k0,(hold _ (by omega)).trans k1,(hold _ (by omega)).trans k2,(hold _ (by omega)).trans k3,k4,k5,(kb.alloc (by omega) _).alloc (by simp;omega) _,kd⟩
 have hY:∀W rest x,lF w rest r W->YieldAt Fence.wide (4-1-1) prog (w.heap.size+5) #[.string x] W (Ty w rest r x):=by
  intro W rest x h;have hp:=h.put {r with state:=.busy};refine zb9 h.b5 (by rw[hr]) (by rw[hr];rfl) trivial {tmps:=#[.string s,undef,.pointer (some ⟨w.heap.size,0,none⟩),.string x,.string s,.func (.func 410) #[] #[.pointer (some ⟨w.heap.size+1+1,0,none⟩),.pointer (some ⟨w.heap.size+1,0,none⟩),.pointer (some ⟨w.heap.size+1+2,0,none⟩)],.string x,undef,undef,undef],defers:=[]} W h.b5 ?_ ?_
  ·intro K hK;rw[hr]
   gi_wp2
   exact hK
  ·generalize hWb:W.putObj (w.heap.size+5) (.loop {r with state:=.busy})=Wb at hp;have hbd:=dH Loop.body hr;have hrr:∀W3,lF w rest {r with state:=.busy} W3->lF w rest r (W3.putObj (w.heap.size+5) (.loop {{r with state:=.busy}with state:=if(none:Option Code).isNone then .ready else .done,pending:=none})):=fun W3 h3=>by
    have:=h3.put r;rw[hr]at this⊢;exact this
   dsimp only at hbd;rw[hbd];clear hbd hr hs0 k0 k1 k2 k3 k4 k5 kb hold hN hWb h;cases hv:kH x with
   |true=>
    have hc:∀(j:Nat) (W:World),CallsIn (Fence.wide.inRound (w.heap.size+5)) j prog 264 #[.string x] W fun e w'=>e=.returned (.bool true)/\Below W.heap.size W w'/\W.drawn<=w'.drawn:=fun j W=>by
     rw[<-hv];exact CallsIn.inRound _ (FF.2 (Ln x W))
    gi_wp2_with (refine⟨trivial,?_⟩;gi_at_call 264;refine(hc _ _).mono ?_;rintro e w' ⟨rfl,hB,hD⟩)
    exact⟨none,rfl,_,(hp.grow hB hD).b5,.inl ⟨rfl,hv,hrr _ (hp.grow hB hD)⟩⟩
   |false=>
    have hc:∀(j:Nat) (W:World),CallsIn (Fence.wide.inRound (w.heap.size+5)) j prog 264 #[.string x] W fun e w'=>e=.returned (.bool false)/\Below W.heap.size W w'/\W.drawn<=w'.drawn:=fun j W=>by
     rw[<-hv];exact CallsIn.inRound _ (FF.2 (Ln x W))
    have hc2:∀(j:Nat),CallsIn (Fence.wide.inRound (w.heap.size+5)) j prog 264 #[.string x] Wb fun e w'=>e=.returned (.bool false)/\lF w rest {r with state:=.busy} w'/\w'.cell? ⟨w.heap.size,0,none⟩=some (.bool false)/\w'.frozen? ⟨w.heap.size,0,none⟩=false:=fun j=>
     (hc j Wb).mono fun e w' ⟨h1,hB,hD⟩=>⟨h1,hp.grow hB hD,(wX (hp.grow hB hD).b0).1,(wX (hp.grow hB hD).b0).2⟩
    gi_wp2_with (refine⟨trivial,?_⟩;gi_at_call 264;refine(hc2 _).mono ?_;rintro e w' ⟨rfl,hB,hB2,hB3⟩)
    exact⟨some .ret,rfl,_,hB.Eo.b5,.inr ⟨rfl,hv,_,rfl,rfl,hB.Eo.put _⟩⟩
 refine(zeB 3 (by omega) w s r hs hY _ hN).mono ?_;clear hY hN hold k0 k1 k2 k3 k4 k5 kb;rintro e W2 ⟨hv,hO⟩;refine⟨hv,?_⟩;have hend:∀(W3:World) (q:Loop) (rest:cH),lF w rest q W3->∀t:Bool,(Below w.heap.size w ((W3.setCell ⟨w.heap.size,0,none⟩ (.bool t)).putObj (w.heap.size+4) (.deferred none))/\w.drawn<=((W3.setCell ⟨w.heap.size,0,none⟩ (.bool t)).putObj (w.heap.size+4) (.deferred none)).drawn)/\((W3.setCell ⟨w.heap.size,0,none⟩ (.bool t)).putObj (w.heap.size+4) (.deferred none)).cell? ⟨w.heap.size,0,none⟩=some (.bool t)/\(W3.setCell ⟨w.heap.size,0,none⟩ (.bool t)).heap[w.heap.size+4]? =some (.deferred (some [])):=fun W3 q rest h t=>
  ⟨⟨Below.put (h.below.setCell (p:=⟨w.heap.size,0,none⟩) (by simp) _) _ (by omega),h.dr⟩,(World.cell?_of_block (World.putObj_heap_other (by show w.heap.size≠_;omega))).trans (wX (S8 h.b0 _)).1,(yQ _ (by omega)).trans h.b4⟩
 rcases hO with⟨ht,rest,h⟩|⟨ht,rest,q,q1,q2,h⟩
 ·refine⟨r,h.b5,by rw[hr];simp,?_⟩;rw[show r.pending=none by rw[hr]];have hp:lF w rest {r with state:=.exhausted,pending:=none} (W2.putObj (w.heap.size+4+1) (.loop {r with state:=.exhausted,pending:=none})):=h.put _;generalize W2.putObj (w.heap.size+4+1) _=W3 at hp⊢;obtain⟨e1,e2⟩:=wX hp.b0;obtain⟨f1,f2,f3⟩:=hend W3 _ rest hp true;clear hp h hr hs0 hend
  gi_wp2
  refine⟨by simp,.inl ⟨_,_,rfl,run_takeDeferred f3,?_⟩⟩;exact⟨_,by simp[results,Tryz.f253,go_sem,f2];rfl,by rw[ht],f1⟩
 ·refine⟨q,h.b5,by rw[q1];simp,?_⟩;rw[q2];have hp:lF w rest {q with state:=.exhausted,pending:=some .ret} (W2.putObj (w.heap.size+4+1) (.loop {q with state:=.exhausted,pending:=some .ret})):=h.put _;generalize W2.putObj (w.heap.size+4+1) _=W3 at hp⊢;have f1:Below w.heap.size w (W3.putObj (w.heap.size+4) (.deferred none))/\w.drawn<=(W3.putObj (w.heap.size+4) (.deferred none)).drawn:=⟨Below.put hp.below (.deferred none) (l:=w.heap.size+4) (by omega),hp.dr⟩;have f2:(W3.putObj (w.heap.size+4) (.deferred none)).cell? ⟨w.heap.size,0,none⟩=some (.bool false):=(World.cell?_of_block (World.putObj_heap_other (by show w.heap.size≠_;omega))).trans (wX hp.b0).1;have f3:=hp.b4;clear hp h hr hs0 hend
  gi_wp2
  refine⟨by simp,.inl ⟨_,_,rfl,run_takeDeferred f3,?_⟩⟩;exact⟨_,by simp[results,Tryz.f253,go_sem,f2];rfl,by rw[ht],f1⟩
theorem zeP (s:cH)(hl:(bs s).length<=40):Ct prog 253 [str s] [] [] (bool (oV [] (bs s))) []:=Ct.grow (xs:=[.string s]) (fun w=>zeR s hl w)
end Go.Proofs.YtegplpagkajolaaGreatDoor
end
namespace Go.Proofs.YtegplpagkajolaaGreatDoor
open Go.AI Go.G Tryz
attribute [simp] ntmps191 results191
theorem YM (s:cH):Ct prog 191 [str s] [] [] (bool (zM s)) []:=by
 refine Ct.B func191 ?_;simp;have hsz:=mD s;refine bX (fun h1=>?_) (fun h1=>?_)<;>simp only[h1]<;>simp[hsz]
 ·have hz:(bs s).length<=40:=by have:=xD h1;omega
  refine bX (fun h2=>?_) (fun h2=>?_)<;>simp only[h2]<;>simp
  ·have e:bs s=[42]:=by rw[xD h2];rfl
   exact aB (by simp[zM,e]) rfl
  have e:¬bs s=[42]:=by
   intro e;exact HF h2 (JR e)
  refine CI.p (Vs s ⟨#[42,46]⟩) ?_;simp;have e2:bs (FM s ⟨#[42,46]⟩)=if B8 (bs s)then(bs s).drop 2 else bs s:=by
   unfold FM B8;rw[show bs ⟨#[42,46]⟩=[42,46]from rfl];simp only[kE,l7];split
   ·rw[JS,hsz,fA]
   ·rfl
  refine CI.p (zeP (FM s ⟨#[42,46]⟩) (by rw[e2];split;rw[KM];omega;exact hz)) ?_;simp;rw[e2];exact aB (by simp[<-zgq,YN,hz,e]) rfl
 ·have hz:¬((bs s).length<=40):=by have:=HF h1;omega
  exact aB (by simp[zM,hz]) rfl
attribute [simp] ntmps383 results383 ntmps331 results331 ntmps384 results384 ntmps335 results335 ntmps90 results90 ntmps306 results306 ntmps374 results374 ntmps303 results303 ntmps263 results263 ntmps332 results332 ntmps265 results265 ntmps334 results334 ntmps333 results333 ntmps266 results266 ntmps385 results385 ntmps386 results386 ntmps339 results339 ntmps337 results337 ntmps336 results336 ntmps267 results267 ntmps338 results338 ntmps96 results96 ntmps50 results50 ntmps268 results268
theorem zga (l:List Weight)(kf:D)(p:Weight->Bool)(hf:∀x∈l,cB prog (.d kf) [st (wC x)] (bool (p x)))(hl:l.length<=9223372036854775807):Ct prog 383 [aC (l.map wC),.d kf] [] [] (int (jH p l)) []:=by
 refine Ct.B func383 ?_;simp;refine aQ.inv mixed rfl (ι:={k:Nat//k<=(l).length/\(l.take k).all (fun x=>!p x)=true}) (fun k=>[(0,aC (l.map wC)),(1,.d kf),(7,int l.length),(8,int k.1)]) (fun k=>[]) 64 (fun k=>(l).length-k.1) ⟨0,by omega,by simp⟩ [] (by constructor<;>simp) ?_;rintro⟨k,hk1,hi⟩ B hB;refine CI.n ?_;simp;refine aJ (fun h=>?_) (fun h=>?_)
 ·have hk:k<(l).length:=by simpa using h
  obtain⟨r,hx,hr,hm,ht,hd,hw⟩:=dL hk;simp only[h];simp[hr,hw];refine CI.ff (hf r hm) rfl rfl rfl ?_;simp;refine aJ (fun hp=>?_) (fun hp=>?_)<;>simp only[hp]<;>simp
  ·exact aB (by simp[yE hi hr hp]) rfl
  ·refine hB _ ⟨k+1,by omega,by simp[ht,hi,hp]⟩ [] ?_ (by simp;omega);constructor<;>simp[hw,ht,hp]
 ·obtain rfl:k=(l).length:=by simp at h;omega
  simp only[h];simp;rw[fA]at hi;exact aB (by simp[yD (fun x hx=>by have:=eF.1 hi x hx;simpa using this)]) rfl
theorem Ag (l:List Weight)(kf:D)(p:Weight->Bool)(hf:∀x∈l,cB prog (.d kf) [st (wC x)] (bool (p x)))(hl:l.length<=9223372036854775807):Ct prog 331 [aC (l.map wC),.d kf] [] [] (bool (l.any p)) []:=by
 refine Ct.B func331 ?_;simp;refine CI.p (zga l kf p hf hl) ?_;simp;rw[CU];exact aB (by simp) rfl
theorem zgc (l:List gB)(kf:D)(p:gB->Bool)(hf:∀x∈l,cB prog (.d kf) [st (fR x)] (bool (p x)))(hl:l.length<=9223372036854775807):Ct prog 384 [aC (l.map fR),.d kf] [] [] (int (jH p l)) []:=by
 refine Ct.B func384 ?_;simp;refine aQ.inv mixed rfl (ι:={k:Nat//k<=(l).length/\(l.take k).all (fun x=>!p x)=true}) (fun k=>[(0,aC (l.map fR)),(1,.d kf),(7,int l.length),(8,int k.1)]) (fun k=>[]) 64 (fun k=>(l).length-k.1) ⟨0,by omega,by simp⟩ [] (by constructor<;>simp) ?_;rintro⟨k,hk1,hi⟩ B hB;refine CI.n ?_;simp;refine aJ (fun h=>?_) (fun h=>?_)
 ·have hk:k<(l).length:=by simpa using h
  obtain⟨r,hx,hr,hm,ht,hd,hw⟩:=dL hk;simp only[h];simp[hr,hw];refine CI.ff (hf r hm) rfl rfl rfl ?_;simp;refine aJ (fun hp=>?_) (fun hp=>?_)<;>simp only[hp]<;>simp
  ·exact aB (by simp[yE hi hr hp]) rfl
  ·refine hB _ ⟨k+1,by omega,by simp[ht,hi,hp]⟩ [] ?_ (by simp;omega);constructor<;>simp[hw,ht,hp]
 ·obtain rfl:k=(l).length:=by simp at h;omega
  simp only[h];simp;rw[fA]at hi;exact aB (by simp[yD (fun x hx=>by have:=eF.1 hi x hx;simpa using this)]) rfl
theorem Ah (l:List gB)(kf:D)(p:gB->Bool)(hf:∀x∈l,cB prog (.d kf) [st (fR x)] (bool (p x)))(hl:l.length<=9223372036854775807):Ct prog 335 [aC (l.map fR),.d kf] [] [] (bool (l.any p)) []:=by
 refine Ct.B func335 ?_;simp;refine CI.p (zgc l kf p hf hl) ?_;simp;rw[CU];exact aB (by simp) rfl
theorem RZ (l:List aA)(kf:D)(p:aA->Bool)(hf:∀x∈l,cB prog (.d kf) [st (aK x)] (bool (p x)))(hl:l.length<=9223372036854775807):Ct prog 90 [aC (l.map aK),.d kf] [] [] (int (jH p l)) []:=by
 refine Ct.B func90 ?_;simp;refine aQ.inv mixed rfl (ι:={k:Nat//k<=(l).length/\(l.take k).all (fun x=>!p x)=true}) (fun k=>[(0,aC (l.map aK)),(1,.d kf),(7,int l.length),(8,int k.1)]) (fun k=>[]) 64 (fun k=>(l).length-k.1) ⟨0,by omega,by simp⟩ [] (by constructor<;>simp) ?_;rintro⟨k,hk1,hi⟩ B hB;refine CI.n ?_;simp;refine aJ (fun h=>?_) (fun h=>?_)
 ·have hk:k<(l).length:=by simpa using h
  obtain⟨r,hx,hr,hm,ht,hd,hw⟩:=dL hk;simp only[h];simp[hr,hw];refine CI.ff (hf r hm) rfl rfl rfl ?_;simp;refine aJ (fun hp=>?_) (fun hp=>?_)<;>simp only[hp]<;>simp
  ·exact aB (by simp[yE hi hr hp]) rfl
  ·refine hB _ ⟨k+1,by omega,by simp[ht,hi,hp]⟩ [] ?_ (by simp;omega);constructor<;>simp[hw,ht,hp]
 ·obtain rfl:k=(l).length:=by simp at h;omega
  simp only[h];simp;rw[fA]at hi;exact aB (by simp[yD (fun x hx=>by have:=eF.1 hi x hx;simpa using this)]) rfl
theorem Sv (l:List aA)(kf:D)(p:aA->Bool)(hf:∀x∈l,cB prog (.d kf) [st (aK x)] (bool (p x)))(hl:l.length<=9223372036854775807):Ct prog 306 [aC (l.map aK),.d kf] [] [] (bool (l.any p)) []:=by
 refine Ct.B func306 ?_;simp;refine CI.p (RZ l kf p hf hl) ?_;simp;rw[CU];exact aB (by simp) rfl
theorem zge (l:List Key)(kf:D)(p:Key->Bool)(hf:∀x∈l,cB prog (.d kf) [st (bP x)] (bool (p x)))(hl:l.length<=9223372036854775807):Ct prog 374 [aC (l.map bP),.d kf] [] [] (int (jH p l)) []:=by
 refine Ct.B func374 ?_;simp;refine aQ.inv mixed rfl (ι:={k:Nat//k<=(l).length/\(l.take k).all (fun x=>!p x)=true}) (fun k=>[(0,aC (l.map bP)),(1,.d kf),(7,int l.length),(8,int k.1)]) (fun k=>[]) 64 (fun k=>(l).length-k.1) ⟨0,by omega,by simp⟩ [] (by constructor<;>simp) ?_;rintro⟨k,hk1,hi⟩ B hB;refine CI.n ?_;simp;refine aJ (fun h=>?_) (fun h=>?_)
 ·have hk:k<(l).length:=by simpa using h
  obtain⟨r,hx,hr,hm,ht,hd,hw⟩:=dL hk;simp only[h];simp[hr,hw];refine CI.ff (hf r hm) rfl rfl rfl ?_;simp;refine aJ (fun hp=>?_) (fun hp=>?_)<;>simp only[hp]<;>simp
  ·exact aB (by simp[yE hi hr hp]) rfl
  ·refine hB _ ⟨k+1,by omega,by simp[ht,hi,hp]⟩ [] ?_ (by simp;omega);constructor<;>simp[hw,ht,hp]
 ·obtain rfl:k=(l).length:=by simp at h;omega
  simp only[h];simp;rw[fA]at hi;exact aB (by simp[yD (fun x hx=>by have:=eF.1 hi x hx;simpa using this)]) rfl
theorem TH (l:List Key)(kf:D)(p:Key->Bool)(hf:∀x∈l,cB prog (.d kf) [st (bP x)] (bool (p x)))(hl:l.length<=9223372036854775807):Ct prog 303 [aC (l.map bP),.d kf] [] [] (bool (l.any p)) []:=by
 refine Ct.B func303 ?_;simp;refine CI.p (zge l kf p hf hl) ?_;simp;rw[CU];exact aB (by simp) rfl
theorem within (n m:Int):Ct prog 263 [int n,int m] [] [] (bool (cG n m)) []:=by
 refine Ct.B func263 ?_;simp
 repeat' first
  | (refine bX (fun h=>?_) (fun h=>?_)<;>simp only[h]<;>simp[h])
  | (refine aJ (fun h=>?_) (fun h=>?_)<;>simp only[h]<;>simp[h])
  | (refine⟨(show nY _ _ from by decide+kernel),?_⟩)
  |fail
 all_goals exact aB (by simp[*,cG]) rfl
theorem zah (w:Weight):Ct prog 332 [st (wC w)] [] [] (bool (!cG w.w 100)) []:=by
 refine Ct.B func332 ?_;simp;refine CI.p (within w.w 100) ?_;simp;exact aB (by simp) rfl
theorem zae (r:aA):Ct prog 265 [st (aK r)] [] [] (bool (pE r)) []:=by
 refine Ct.B func265 ?_;simp;refine CI.p (within r.cS 2147483647) ?_;simp;refine bX (fun h1=>?_) (fun h1=>?_)<;>simp only[h1]<;>simp<;>(try simp only[nT,nF,dT,dF]at h1)
 ·first|exact aB (by simp[pE,h1]) rfl|exact cK (by simp[pE,h1])
 refine CI.p (within r.port 65535) ?_;simp;refine bX (fun h2=>?_) (fun h2=>?_)<;>simp only[h2]<;>simp<;>(try simp only[nT,nF,dT,dF]at h2)
 ·first|exact aB (by simp[pE,h2]) rfl|exact cK (by simp[pE,h2])
 refine bX (fun h3=>?_) (fun h3=>?_)<;>simp only[h3]<;>simp<;>(try simp only[nT,nF,dT,dF]at h3)
 ·have hz:¬r.rules.length<=8:=by omega
  exact aB (by simp[pE,hz]) rfl
 refine aJ (fun h4=>?_) (fun h4=>?_)<;>simp only[h4]<;>simp<;>(try simp only[nT,nF,dT,dF]at h4)
 ·have hz:¬r.cT.length<=8:=by omega
  exact aB (by simp[pE,hz]) rfl
 have hz3:r.rules.length<=8:=by omega
 have hz4:r.cT.length<=8:=by omega
 refine aQ.inv mixed rfl (ι:={k:Nat//k<=(r.cT).length/\(r.cT.take k).all (fun h=>cG h 2147483647)=true}) (fun k=>[(1,.ptr 64 0),(30,aC (r.cT.map lP)),(31,int r.cT.length),(32,int k.1)]) (fun k=>[(64,.cells ((aK r).map .d) 126)]) 65 (fun k=>(r.cT).length-k.1) ⟨0,by omega,by simp⟩ [] (by constructor<;>simp) ?_;rintro⟨k,hk1,hi⟩ B hB;refine CI.n ?_;simp;refine aJ (fun h=>?_) (fun h=>?_)
 ·have hk:k<(r.cT).length:=by simpa using h
  obtain⟨y,hx,hr,hm,ht,hd,hw⟩:=dL hk;simp only[h];simp[hr,hw];refine CI.p (within y 2147483647) ?_;simp;refine aJ (fun h5=>?_) (fun h5=>?_)<;>simp only[h5]<;>simp<;>(try simp only[nT,nF,dT,dF]at h5)
  ·have e:r.cT.all (fun h=>cG h 2147483647)=false:=by
    rw[B4];exact⟨y,hm,by simp[h5]⟩
   exact aB (by simp[pE,e]) rfl
  ·refine hB _ ⟨k+1,by omega,by simp[ht,hi,h5]⟩ [] ?_ (by simp;omega);constructor<;>simp[hw,ht,h5]
 ·obtain rfl:k=(r.cT).length:=by simp at h;omega
  simp only[h];simp;rw[fA]at hi;have hh:=hi;refine aQ.inv mixed rfl (ι:={k:Nat//k<=(r.rules).length/\(r.rules.take k).all xQ=true}) (fun k=>[(1,.ptr 64 0),(41,aC (r.rules.map fR)),(42,int r.rules.length),(43,int k.1)]) (fun k=>[(64,.cells ((aK r).map .d) 126)]) 65 (fun k=>(r.rules).length-k.1) ⟨0,by omega,by simp⟩ [] (by constructor<;>simp) ?_;rintro⟨k,hk1,hi⟩ B hB;refine CI.n ?_;simp;refine aJ (fun h=>?_) (fun h=>?_)
  ·have hk:k<(r.rules).length:=by simpa using h
   obtain⟨x,hx,hr,hm,ht,hd,hw⟩:=dL hk;simp only[h];simp[hr,hw];refine bX (fun h6=>?_) (fun h6=>?_)<;>simp only[h6]<;>simp<;>(try simp only[nT,nF,dT,dF]at h6)
   ·have hz:¬x.split.length<=4:=by omega
    have e:r.rules.all xQ=false:=by
     rw[B4];exact⟨x,hm,by simp[xQ,hz]⟩
    exact aB (by simp[pE,e]) rfl
   have hz:x.split.length<=4:=by omega
   refine CI.p (Ag x.split (dX 332) (fun w=>!cG w.w 100) (fun w _=>cB.of (zah w) call332 rfl rfl) (by omega)) ?_;simp;refine aJ (fun h7=>?_) (fun h7=>?_)<;>simp only[h7]<;>simp<;>(try simp only[nT,nF,dT,dF]at h7)
   ·have e:r.rules.all xQ=false:=by
     rw[B4];refine⟨x,hm,?_⟩;simp[xQ,hz];simpa using h7
    exact aB (by simp[pE,e]) rfl
   ·have e:xQ x=true:=by
     simp[xQ,hz];simpa using h7
    refine hB _ ⟨k+1,by omega,by simp[ht,hi,e]⟩ [] ?_ (by simp;omega);constructor<;>simp[hw,ht,e]
  ·obtain rfl:k=(r.rules).length:=by simp at h;omega
   simp only[h];simp;rw[fA]at hi;first|exact aB (by simp[pE,hi,hh,h1,h2,hz3,hz4]) rfl|exact cK (by simp[pE,hi,hh,h1,h2,hz3,hz4])
theorem Mi (k:Int):Ct prog 334 [int k] [] [] (.agg [bool (IZ k),bool (tH k),bool (ET k),bool (I1 k)]) []:=by
 refine Ct.B func334 ?_;simp
 repeat' first
  | (refine bX (fun h=>?_) (fun h=>?_)<;>simp only[h]<;>simp[h])
  | (refine aJ (fun h=>?_) (fun h=>?_)<;>simp only[h]<;>simp[h])
  | (refine⟨(show nY _ _ from by decide+kernel),?_⟩)
  |fail
 all_goals exact aB (by simp[*,IZ,tH,ET,I1]) rfl
theorem zko (a b c d x y z t:Bool):Ct prog 333 [.agg [bool a,bool b,bool c,bool d],.agg [bool x,bool y,bool z,bool t]] [] [] (.agg [bool (a&&x),bool (b&&y),bool (c&&z),bool (d&&t)]) []:=by
 refine Ct.B func333 ?_;simp;cases a<;>cases b<;>cases c<;>cases d<;>(simp[ntmps127,results127])<;>exact aB (by simp) rfl
theorem zaJ (r:aA):Ct prog 266 [st (aK r)] [] [] (bool (y8 r)) []:=by
 refine Ct.B func266 ?_;simp;refine CI.p (Mi r.kind) ?_;simp;refine CI.p (zko (!decide (r.port=0)) (!decide (r.to=⟨#[]⟩)) (decide (0<r.rules.length)) (decide (0<r.cT.length)) (IZ r.kind) (tH r.kind) (ET r.kind) (I1 r.kind)) ?_;simp;refine⟨by decide+kernel,?_⟩;have e1:decide (r.rules.length=0)= !decide (0<r.rules.length):=by cases r.rules<;>simp
 have e2:decide (r.cT.length=0)= !decide (0<r.cT.length):=by cases r.cT<;>simp
 have e3:decide (bs r.to=[])=decide (r.to=⟨#[]⟩):=by
  rw[DP,cP,cP,OP];rfl
 have e:y8 r=((decide (r.port=0)||IZ r.kind)&&((decide (r.to=⟨#[]⟩)||tH r.kind)&&((!decide (0<r.rules.length)||ET r.kind)&&(!decide (0<r.cT.length)||I1 r.kind)))):=by
  rw[y8,e1,e2,e3,Bool.and_assoc,Bool.and_assoc]
 rw[e];exact aB (by simp) rfl
theorem zb0 (w:Weight):Ct prog 385 [st (wC w)] [] [] (bool (!kH w.gI)) []:=by
 refine Ct.B func385 ?_;simp;refine CI.p (IU w.gI) ?_;simp;exact aB (by simp) rfl
theorem Uv (w:Weight):Ct prog 386 [st (wC w)] [] [] (bool (decide (0<w.w))) []:=by
 refine Ct.B func386 ?_;simp;exact aB (by simp) rfl
theorem Uu (x:gB)(hl:x.split.length<=4):Ct prog 339 [st (fR x)] [] [] (bool (FJ x)) []:=by
 refine Ct.B func339 ?_;simp;refine CI.p (Ag x.split (dX 386) (fun w=>decide (0<w.w)) (fun w _=>cB.of (Uv w) call386 rfl rfl) (by omega)) ?_;simp;exact aB (by simp[FJ]) rfl
theorem zbU (x:gB)(hl:x.split.length<=4):Ct prog 337 [st (fR x)] [] [] (bool (CE x)) []:=by
 refine Ct.B func337 ?_;simp;refine CI.p (YM x.host) ?_;simp;refine bX (fun h1=>?_) (fun h1=>?_)<;>simp only[h1]<;>simp
 ·refine CI.p (WR x.pre) ?_;simp;refine bX (fun h2=>?_) (fun h2=>?_)<;>simp only[h2]<;>simp
  ·refine CI.p (Ag x.split (dX 385) (fun w=>!kH w.gI) (fun w _=>cB.of (zb0 w) call385 rfl rfl) (by omega)) ?_;simp;exact aB (by simp[CE,h1,h2,Av]) rfl
  ·exact aB (by simp[CE,h1,h2]) rfl
 ·exact aB (by simp[CE,h1]) rfl
theorem Ll (x:gB)(hl:x.split.length<=4):Ct prog 336 [st (fR x)] [] [] (bool (!CE x)) []:=by
 refine Ct.B func336 ?_;simp;refine CI.p (zbU x hl) ?_;simp;exact aB (by simp) rfl
theorem zeS (r:aA)(hl:r.rules.length<=8/\∀x∈r.rules,x.split.length<=4):Ct prog 267 [st (aK r)] [] [] (bool (wN r)) []:=by
 refine Ct.B func267 ?_;simp;refine CI.p (Mi r.kind) ?_;simp;refine bX (fun h1=>?_) (fun h1=>?_)<;>simp only[h1]<;>simp<;>(try simp only[nT,nF,dT,dF]at h1)
 ·refine CI.p (IU r.to) ?_;simp;refine aJ (fun h2=>?_) (fun h2=>?_)<;>simp only[h2]<;>simp<;>(try simp only[nT,nF,dT,dF]at h2)
  ·first|exact aB (by simp[wN,h1,h2]) rfl|exact cK (by simp[wN,h1,h2])
  refine CI.p (Ah r.rules (dX 336) (fun x=>!CE x) (fun x hx=>cB.of (Ll x (hl.2 x hx)) call336 rfl rfl) (by omega)) ?_;simp;first|exact aB (by simp[wN,h1,h2,Av]) rfl|exact cK (by simp[wN,h1,h2,Av])
 ·refine CI.p (Ah r.rules (dX 336) (fun x=>!CE x) (fun x hx=>cB.of (Ll x (hl.2 x hx)) call336 rfl rfl) (by omega)) ?_;simp;exact aB (by simp[wN,h1,Av]) rfl
theorem zaz (x y:gB):Ct prog 338 [st (fR y),.d (.bM (fR x))] [] [] (bool (D6 x y)) []:=by
 refine Ct.B func338 ?_;simp;refine bX (fun h1=>?_) (fun h1=>?_)<;>simp only[h1]<;>simp
 ·exact aB (by simp[D6,h1]) rfl
 ·exact aB (by simp[D6,h1]) rfl
theorem zgf (l:List Int)(v:Int)(hl:l.length<=9223372036854775807):Ct prog 96 [aC (l.map lP),int v] [] [] (int (jH (fun x=>decide (v=x)) l)) []:=by
 refine Ct.B func96 ?_;simp;refine aQ.inv mixed rfl (ι:={k:Nat//k<=(l).length/\(l.take k).all (fun x=>!decide (v=x))=true}) (fun k=>[(0,aC (l.map lP)),(1,int v),(7,int l.length),(8,int k.1)]) (fun k=>[]) 64 (fun k=>(l).length-k.1) ⟨0,by omega,by simp⟩ [] (by constructor<;>simp) ?_;rintro⟨k,hk1,hi⟩ B hB;refine CI.n ?_;simp;refine aJ (fun h=>?_) (fun h=>?_)
 ·have hk:k<(l).length:=by simpa using h
  obtain⟨r,hx,hr,hm,ht,hd,hw⟩:=dL hk;simp only[h];simp[hr,hw];refine aJ (fun hp=>?_) (fun hp=>?_)<;>simp only[hp]<;>simp
  ·exact aB (by simp[yE (p:=fun x=>decide (v=x)) hi hr (by simp[hp])]) rfl
  ·refine hB _ ⟨k+1,by omega,by simp[ht,hi,hp]⟩ [] ?_ (by simp;omega);constructor<;>simp[hw,ht,hp]
 ·obtain rfl:k=(l).length:=by simp at h;omega
  simp only[h];simp;rw[fA]at hi;exact aB (by simp[yD (p:=fun x=>decide (v=x)) (fun x hx=>by have:=eF.1 hi x hx;simpa using this)]) rfl
theorem zgy (l:List Int)(v:Int)(hl:l.length<=9223372036854775807):Ct prog 50 [aC (l.map lP),int v] [] [] (bool (l.any fun x=>decide (v=x))) []:=by
 refine Ct.B func50 ?_;simp;refine CI.p (zgf l v hl) ?_;simp;rw[CU];exact aB (by simp) rfl
theorem zai (r:aA)(hl:r.rules.length<=8/\r.cT.length<=8/\∀x∈r.rules,x.split.length<=4):Ct prog 268 [st (aK r)] [] [] (bool (CA r)) []:=by
 refine Ct.B func268 ?_;simp;obtain⟨hl1,hl2,hl3⟩:=hl;refine aQ.inv mixed rfl (ι:={k:Nat//k<=(r.rules).length/\((r.rules.take k).all FJ=true/\w8 D6 (r.rules.take k) (r.rules.drop k)=w8 D6 [] r.rules)}) (fun k=>[(1,.ptr 64 0),(9,aC (r.rules.map fR)),(10,int r.rules.length),(11,int k.1)]) (fun k=>[(64,.cells ((aK r).map .d) 126)]) 65 (fun k=>(r.rules).length-k.1) ⟨0,by omega,by simp⟩ [] (by constructor<;>simp) ?_;rintro⟨k,hk1,hi⟩ B hB;refine CI.run 5 400 rfl ?_;simp;refine aJ (fun h=>?_) (fun h=>?_)
 ·have hk:k<(r.rules).length:=by simpa using h
  obtain⟨x,hx,hr,hm,ht,hd,hw⟩:=dL hk;simp only[h];simp[hr,hw];refine CI.s (tm:=[(1,.ptr 64 0),(9,aC (r.rules.map fR)),(10,int r.rules.length),(11,int k),(3,int k),(4,.d (.bM (fR x))),(5,.d (.fn (.func 338) [] [.bM (fR x)]))]) (mm:=[(64,.cells ((aK r).map .d) 126)]) (nx:=65) [] [321] (by constructor<;>simp) ?_;obtain⟨hi1,hi2⟩:=hi;rw[hd,w8]at hi2;refine CI.n ?_;simp;refine CI.p (Uu x (hl3 x hm)) ?_;simp;refine bX (fun h1=>?_) (fun h1=>?_)<;>simp only[h1]<;>simp<;>(try simp only[nT,nF,dT,dF]at h1)
  ·have e:r.rules.all FJ=false:=by
    rw[B4];exact⟨x,hm,by simp[h1]⟩
   exact aB (by simp[CA,e]) rfl
  refine⟨by omega,?_⟩;refine CI.p (Ah (r.rules.take k) (.fn (.func 338) [] [.bM (fR x)]) (D6 x) (fun y _=>cB.mY (zaz x y) call338 rfl rfl) (by simp;omega)) ?_;simp;refine aJ (fun h2=>?_) (fun h2=>?_)<;>simp only[h2]<;>simp<;>(try simp only[nT,nF,dT,dF]at h2)
  ·have e:w8 D6 [] r.rules=false:=by rw[<-hi2,h2];rfl
   exact aB (by simp[CA,e]) rfl
  ·refine hB _ ⟨k+1,by omega,by simp[ht,hi1,h1],by rw[ht,<-hi2,h2];rfl⟩ [] ?_ (by simp;omega);constructor<;>simp[hw]
 ·obtain rfl:k=(r.rules).length:=by simp at h;omega
  simp only[h];simp;rw[fA,List.drop_length]at hi;obtain⟨hi1,hi2⟩:=hi;simp only[w8]at hi2;refine aQ.inv mixed rfl (ι:={k:Nat//k<=(r.cT).length/\(w8 (fun a b:Int=>decide (a=b)) (r.cT.take k) (r.cT.drop k)=w8 (fun a b=>decide (a=b)) [] r.cT)}) (fun k=>[(1,.ptr 64 0),(30,aC (r.cT.map lP)),(31,int r.cT.length),(32,int k.1)]) (fun k=>[(64,.cells ((aK r).map .d) 126)]) 65 (fun k=>(r.cT).length-k.1) ⟨0,by omega,by simp⟩ [] (by constructor<;>simp) ?_;rintro⟨k,hk1,hi⟩ B hB;refine CI.n ?_;simp;refine aJ (fun h=>?_) (fun h=>?_)
  ·have hk:k<(r.cT).length:=by simpa using h
   obtain⟨y,hx,hr,hm,ht,hd,hw⟩:=dL hk;simp only[h];simp[hr,hw];rw[hd,w8]at hi;refine⟨by omega,?_⟩;refine CI.p (zgy (r.cT.take k) y (by simp;omega)) ?_;simp;refine aJ (fun h2=>?_) (fun h2=>?_)<;>simp only[h2]<;>simp<;>(try simp only[nT,nF,dT,dF]at h2)
   ·have e:w8 (fun a b:Int=>decide (a=b)) [] r.cT=false:=by rw[<-hi,h2];rfl
    exact aB (by simp[CA,e]) rfl
   ·refine hB _ ⟨k+1,by omega,by rw[ht,<-hi,h2];rfl⟩ [] ?_ (by simp;omega);constructor<;>simp[hw]
  ·obtain rfl:k=(r.cT).length:=by simp at h;omega
   simp only[h];simp;rw[fA,List.drop_length]at hi;simp only[w8]at hi;exact aB (by simp[CA,hi1,<-hi2,<-hi]) rfl
attribute [simp] ntmps206 results206
theorem Eb {r:aA}(h:pE r=true):r.rules.length<=8/\r.cT.length<=8/\∀x∈r.rules,x.split.length<=4:=by
 simp only[pE,bN,cP,eF,xQ]at h;exact⟨h.1.1.1.2,h.1.1.2,fun x hx=>(h.2 x hx).1⟩
theorem D3 (r:aA):Ct prog 206 [st (aK r)] [] [] (int (eL r)) []:=by
 refine Ct.B func206 ?_;simp;refine CI.p (within r.kind 3) ?_;simp;refine aJ (fun h1=>?_) (fun h1=>?_)<;>simp only[h1]<;>simp<;>(try simp only[nT,nF,dT,dF]at h1)
 ·first|exact aB (by simp[eL,h1]) rfl|exact cK (by simp[eL,h1])
 refine CI.p (IU r.name) ?_;simp;refine aJ (fun h2=>?_) (fun h2=>?_)<;>simp only[h2]<;>simp<;>(try simp only[nT,nF,dT,dF]at h2)
 ·first|exact aB (by simp[eL,h1,h2]) rfl|exact cK (by simp[eL,h1,h2])
 refine CI.p (zae r) ?_;simp;refine aJ (fun h3=>?_) (fun h3=>?_)<;>simp only[h3]<;>simp<;>(try simp only[nT,nF,dT,dF]at h3)
 ·first|exact aB (by simp[eL,h1,h2,h3]) rfl|exact cK (by simp[eL,h1,h2,h3])
 have hb:=Eb h3;refine CI.p (zaJ r) ?_;simp;refine aJ (fun h4=>?_) (fun h4=>?_)<;>simp only[h4]<;>simp<;>(try simp only[nT,nF,dT,dF]at h4)
 ·exact aB (by simp[eL,h1,h2,h3,h4]) rfl
 refine CI.p (zeS r ⟨hb.1,hb.2.2⟩) ?_;simp;refine aJ (fun h5=>?_) (fun h5=>?_)<;>simp only[h5]<;>simp<;>(try simp only[nT,nF,dT,dF]at h5)
 ·exact aB (by simp[eL,h1,h2,h3,h4,h5]) rfl
 refine CI.p (zai r hb) ?_;simp;refine aJ (fun h6=>?_) (fun h6=>?_)<;>simp only[h6]<;>simp<;>(try simp only[nT,nF,dT,dF]at h6)
 ·exact aB (by simp[eL,h1,h2,h3,h4,h5,h6]) rfl
 ·exact aB (by simp[eL,h1,h2,h3,h4,h5,h6]) rfl
theorem zb5 {n m:Int}:cG n m=true↔0<=n/\n<=m:=by simp[cG]
def Xt (l:List Weight):Int:=(l.map (·.w)).sum
@[simp] theorem sumW_nil :Xt []=0:=rfl
end Go.Proofs.YtegplpagkajolaaGreatDoor
