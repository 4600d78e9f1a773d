/-
  LAYERS 1 to 3: the walks of names, hosts, paths, and of what is wrong with a resource, of the program and of the reference.
-/
import Derived.Test.YtjoaclgkjhncjaaGreatDoorTy
import Derived.Test.YtjoaclgkjhncjaaGreatDoorPl
import Derived.Test.YtjoaclgkjhncjaaGreatDoorFc
import Derived.Test.YtjoaclgkjhncjaaGreatDoorFd
set_option linter.unusedSimpArgs false
set_option linter.unusedVariables false
namespace Go.Proofs.YtjoaclgkjhncjaaGreatDoor
open Go.AI Go.G
theorem mixed :Tryz.prog.follows .mixedOrders=true:=by kernel_rfl
theorem quq (a b:Str):Ct Tryz.prog 157 [str a,str b] [] [] (int (cmpS a b)) []:=Ct.pure (xs:=[.string a,.string b]) (fun w=>Tryz.strings_Compare a b w)
attribute [simp] Tryz.ntmps99 Tryz.results99
theorem qyn (a b:Str):Ct Tryz.prog 99 [str a,str b] [] [] (int (cmpS a b)) []:=by
 refine Ct.B Tryz.func99 mixed 9999 400 ?_;simp;refine CI.p (quq a b) Tryz.call157 9999 ?_;simp;first|exact fin0 (by simp) rfl|exact zaa (by simp)
attribute [simp] Tryz.ntmps265 Tryz.results265
theorem lowP (c:Int):Ct Tryz.prog 265 [.d (.v (.int .i32 c))] [] [] (bool (lowI c)) []:=by
 refine Ct.B Tryz.func265 mixed 9999 400 ?_;simp
 repeat' first
  | (refine sGI (fun h=>?_) (fun h=>?_)<;>simp only[h]<;>simp[h])
  | (refine sBI (fun h=>?_) (fun h=>?_)<;>simp only[h]<;>simp[h])
  | (refine⟨(show zba _ _ from by decide+kernel),?_⟩)
  |fail
 all_goals exact fin0 (by simp[*,lowI]) rfl
attribute [simp] Tryz.ntmps264 Tryz.results264
theorem qbh (c:Int):Ct Tryz.prog 264 [.d (.v (.int .i32 c))] [] [] (bool (zwg c)) []:=by
 refine Ct.B Tryz.func264 mixed 9999 400 ?_;simp;refine CI.p (lowP c) Tryz.call265 9999 ?_;simp
 repeat' first
  | (refine sGI (fun h=>?_) (fun h=>?_)<;>simp only[h]<;>simp[h])
  | (refine sBI (fun h=>?_) (fun h=>?_)<;>simp only[h]<;>simp[h])
  | (refine⟨(show zba _ _ from by decide+kernel),?_⟩)
  |fail
 all_goals exact fin0 (by simp[*,zwg]) rfl
attribute [simp] Tryz.ntmps400 Tryz.results400
theorem zqk (s p:Str):Ct Tryz.prog 400 [str s,str p] [] [] (bool (decide ((bs p).length≤(bs s).length)&&decide ((bs s).take (bs p).length=bs p))) []:=by
 refine Ct.B Tryz.func400 mixed 9999 400 ?_;simp;have hs:=zbq s;have hp:=zbq p;refine sGI (fun h1=>?_) (fun h1=>?_)<;>simp only[h1]<;>simp[hs,hp]
 ·have h1':(bs p).length≤(bs s).length:=by have:=of_decide_eq_true h1;omega
  refine⟨by omega,?_⟩;first|exact fin0 (by simp[h1',zvi,zeo]) rfl|exact zaa (by simp[h1',zvi,zeo])
 ·have h1':¬(bs p).length≤(bs s).length:=by have:=of_decide_eq_false h1;omega
  first|exact fin0 (by simp[h1']) rfl|exact zaa (by simp[h1'])
attribute [simp] Tryz.ntmps202 Tryz.results202
theorem zfw (s:Str):Ct Tryz.prog 202 [str s] [] [] (bool (zda s)) []:=by
 refine Ct.B Tryz.func202 mixed 9999 400 ?_;simp;have hsz:=zbq s;refine sBI (fun h1=>?_) (fun h1=>?_)<;>simp only[h1]<;>simp[hsz]
 ·have hz:¬((bs s).length≤12):=by have:=of_decide_eq_true h1;omega
  first|exact fin0 (by simp[zda,zha,hz]) rfl|exact zaa (by simp[zda,zha,hz])
 have hz:(bs s).length≤12:=by have:=of_decide_eq_false h1;omega
 refine LoopI.inv mixed rfl (ι:={k:Nat//k≤(bs s).length∧((bs s).take k).all zn8=true∧(1≤k→lowB ((bs s).headD 0)=true)}) (fun k=>[(0,str s),(9,.own 64)]) (fun k=>[(64,.iter s k.1)]) 65 (fun k=>(bs s).length-k.1) ⟨0,by omega,by simp,by omega⟩ [] (by constructor<;>simp) ?_;rintro⟨k,hk1,hi,hl⟩ B hB;by_cases hk:k<(bs s).length
 ·have hr:(bs s)[k]? =some (bs s)[k]:=List.getElem?_eq_getElem hk;have hm:(bs s)[k]∈(bs s):=List.getElem_mem hk;have ht:(bs s).take (k+1)=(bs s).take k++[(bs s)[k]]:=by rw[List.take_add_one,hr];rfl
  have h0:k=0→(bs s).headD 0=(bs s)[k]:=by
   intro e;simp only[e,List.headD_eq_head?_getD,List.head?_eq_getElem?];rw[List.getElem?_eq_getElem (by omega)];rfl
  generalize(bs s)[k]=c at hr hm ht h0;by_cases hc:c.toNat<128
  ·refine CI.run 9999 400 rfl ?_;simp[hsz,hk,zx0 hr hc];refine CI.p (qbh c.toNat) Tryz.call264 9999 ?_;simp;refine sGI (fun h2=>?_) (fun h2=>?_)<;>simp only[h2]<;>simp
   ·have h2':(bs s).all zn8=false:=by
     rw[List.all_eq_false];exact⟨c,hm,by simpa using h2⟩
    first|exact fin0 (by simp[zda,zha,h2']) rfl|exact zaa (by simp[zda,zha,h2'])
   have h2':zn8 c=true:=by simpa using h2
   refine sGI (fun h3=>?_) (fun h3=>?_)<;>simp only[h3]<;>simp
   ·have hk0:k=0:=by have:=of_decide_eq_true h3;omega
    refine CI.p (lowP c.toNat) Tryz.call265 9999 ?_;simp;refine sBI (fun h4=>?_) (fun h4=>?_)<;>simp only[h4]<;>simp
    ·have h4':lowB c=false:=by simpa using h4
     have h5:(bs s).head?.getD 0=c:=by rw[←List.headD_eq_head?_getD];exact h0 hk0
     first|exact fin0 (by simp[zda,zha,h5,h4']) rfl|exact zaa (by simp[zda,zha,h5,h4'])
    ·have h4':lowB c=true:=by simpa using h4
     refine hB _ ⟨k+1,by omega,by simp[ht,hi,h2'],fun _=>by rw[h0 hk0];exact h4'⟩ [] ?_ (by simp;omega);constructor<;>simp
   ·have hk0:1≤k:=by have:=of_decide_eq_false h3;omega
    refine hB _ ⟨k+1,by omega,by simp[ht,hi,h2'],fun _=>hl hk0⟩ [] ?_ (by simp;omega);constructor<;>simp
  ·have hu:=zx1 hr (by omega);have hv:zn8 c=false:=by
    cases hv:zn8 c
    ·rfl
    ·exact absurd (qhp hv) hc
   have h2':(bs s).all zn8=false:=by
    rw[List.all_eq_false];exact⟨c,hm,by simp[hv]⟩
   refine CI.run 9999 400 rfl ?_;simp[hsz,hk];refine CI.p (qbh (Utf8.decode s k).1) Tryz.call264 9999 ?_;simp;rw[zwf hu];simp;first|exact fin0 (by simp[zda,zha,h2']) rfl|exact zaa (by simp[zda,zha,h2'])
 ·have hkl:k=(bs s).length:=by omega
  rw[hkl,List.take_length]at hi;refine CI.run 9999 400 rfl ?_;simp[hsz,hk,hkl];cases hb:bs s with
  |nil=>
   have e:s=⟨#[]⟩:=zsq (by rw[hb];rfl);subst e;first|exact fin0 (by simp[zda,zha,hb]) rfl|exact zaa (by simp[zda,zha,hb])
  |cons a l=>
   have hne:¬s=⟨#[]⟩:=by
    intro e;subst e;cases hb
   have e:zda s=true:=by
    have h5:=hl (by rw[hkl,hb];simp);have h6:1≤(bs s).length:=by rw[hb];simp
    simp only[zda,zha,hi,hz,h5,h6,decide_true,Bool.true_and]
   first|exact fin0 (by simp[e,hne]) rfl|exact zaa (by simp[e,hne])
attribute [simp] Tryz.ntmps383 Tryz.results383
theorem zse (s p:Str):Ct Tryz.prog 383 [str s,str p] [] [] (bool (decide ((bs p).length≤(bs s).length)&&decide ((bs s).take (bs p).length=bs p))) []:=by
 refine Ct.B Tryz.func383 mixed 9999 400 ?_;simp;refine CI.p (zqk s p) Tryz.call400 9999 ?_;simp;first|exact fin0 (by simp) rfl|exact zaa (by simp)
def zs3 (s p:Str):Str:=if(decide ((bs p).length≤(bs s).length)&&decide ((bs s).take (bs p).length=bs p))=true then s.extract (bs p).length s.size else s
attribute [simp] Tryz.ntmps399 Tryz.results399
theorem qc6 (s p:Str):Ct Tryz.prog 399 [str s,str p] [] [] (str (zs3 s p)) []:=by
 refine Ct.B Tryz.func399 mixed 9999 400 ?_;simp;have hs:=zbq s;have hp:=zbq p;refine CI.p (zqk s p) Tryz.call400 9999 ?_;simp;generalize hq:(decide ((bs p).length≤(bs s).length)&&decide ((bs s).take (bs p).length=bs p))=q;refine sBI (fun h1=>?_) (fun h1=>?_)<;>simp only[h1]<;>simp[hs,hp]
 ·have h1':(bs p).length≤(bs s).length:=by
   rw[h1,Bool.and_eq_true]at hq;exact of_decide_eq_true hq.1
  refine⟨by omega,?_⟩;first|exact fin0 (by simp[zs3,hq,h1,hs]) rfl|exact zaa (by simp[zs3,hq,h1,hs])
 ·first|exact fin0 (by simp[zs3,hq,h1]) rfl|exact zaa (by simp[zs3,hq,h1])
attribute [simp] Tryz.ntmps382 Tryz.results382
theorem zys (s p:Str):Ct Tryz.prog 382 [str s,str p] [] [] (str (zs3 s p)) []:=by
 refine Ct.B Tryz.func382 mixed 9999 400 ?_;simp;refine CI.p (qc6 s p) Tryz.call399 9999 ?_;simp;first|exact fin0 (by simp) rfl|exact zaa (by simp)
attribute [simp] Tryz.ntmps337 Tryz.results337
theorem qho (s:Str):Ct Tryz.prog 337 [str s] [] [] (bool (zkh s)) []:=by
 refine Ct.B Tryz.func337 mixed 9999 400 ?_;simp;have hsz:=zbq s;refine LoopI.inv mixed rfl (ι:={k:Nat//k≤(bs s).length∧((bs s).take k).all slB=true}) (fun k=>[(0,str s),(6,.own 64)]) (fun k=>[(64,.iter s k.1)]) 65 (fun k=>(bs s).length-k.1) ⟨0,by omega,by simp⟩ [] (by constructor<;>simp) ?_;rintro⟨k,hk1,hi⟩ B hB;by_cases hk:k<(bs s).length
 ·have hr:(bs s)[k]? =some (bs s)[k]:=List.getElem?_eq_getElem hk;have hm:(bs s)[k]∈(bs s):=List.getElem_mem hk;have ht:(bs s).take (k+1)=(bs s).take k++[(bs s)[k]]:=by rw[List.take_add_one,hr];rfl
  generalize(bs s)[k]=c at hr hm ht;by_cases hc:c.toNat<128
  ·refine CI.run 9999 400 rfl ?_;simp[hsz,hk,zx0 hr hc];refine CI.p (qbh c.toNat) Tryz.call264 9999 ?_;simp;refine sGI (fun h2=>?_) (fun h2=>?_)<;>simp only[h2]<;>simp
   ·refine sBI (fun h3=>?_) (fun h3=>?_)<;>simp only[h3]<;>simp
    ·have h2':(bs s).all slB=false:=by
      rw[List.all_eq_false];exact⟨c,hm,by simp[slB]at h2 h3⊢;exact⟨h2,by omega⟩⟩
     first|exact fin0 (by simp[zkh,h2']) rfl|exact zaa (by simp[zkh,h2'])
    ·have h2':slB c=true:=by simp[slB]at h2 h3⊢;exact .inr (by omega)
     refine hB _ ⟨k+1,by omega,by simp[ht,hi,h2']⟩ [] ?_ (by simp;omega);constructor<;>simp
   ·have h2':slB c=true:=by simp[slB]at h2⊢;exact .inl h2
    refine hB _ ⟨k+1,by omega,by simp[ht,hi,h2']⟩ [] ?_ (by simp;omega);constructor<;>simp
  ·have hu:=zx1 hr (by omega);have hv:slB c=false:=by
    cases hv:zn8 c
    ·simp[slB,hv];omega
    ·exact absurd (qhp hv) hc
   have h2':(bs s).all slB=false:=by
    rw[List.all_eq_false];exact⟨c,hm,by simp[hv]⟩
   have hn:¬((Utf8.decode s k).1:Int)=47:=by omega
   refine CI.run 9999 400 rfl ?_;simp[hsz,hk];refine CI.p (qbh (Utf8.decode s k).1) Tryz.call264 9999 ?_;simp;rw[zwf hu];simp[hn];first|exact fin0 (by simp[zkh,h2']) rfl|exact zaa (by simp[zkh,h2'])
 ·have hkl:k=(bs s).length:=by omega
  rw[hkl,List.take_length]at hi;refine CI.run 9999 400 rfl ?_;simp[hsz,hk,hkl];refine sGI (fun h1=>?_) (fun h1=>?_)<;>simp only[h1]<;>simp
  ·refine CI.p (zse s ⟨#[47]⟩) Tryz.call383 9999 ?_;simp;have hz:(bs s).length≤40:=by have:=of_decide_eq_true h1;omega
   have e:zkh s=(decide ((bs ⟨#[47]⟩).length≤(bs s).length)&&decide ((bs s).take (bs ⟨#[47]⟩).length=bs ⟨#[47]⟩)):=by
    rw[show bs ⟨#[47]⟩=[47]from rfl];simp only[zkh,hi,hz];cases hb:bs s with
    |nil=>rfl
    |cons a l=>simp[←UInt8.toNat_inj]
   first|exact fin0 (by simp[e]) rfl|exact zaa (by simp[e])
  ·have hz:¬((bs s).length≤40):=by have:=of_decide_eq_false h1;omega
   first|exact fin0 (by simp[zkh,hz]) rfl|exact zaa (by simp[zkh,hz])
end Go.Proofs.YtjoaclgkjhncjaaGreatDoor
section
open Go.RowKit Go.Shelf
namespace Go.Proofs.YtjoaclgkjhncjaaGreatDoor
open Go.AI Go.G
attribute [local go_sem] Oper.semAt_some
theorem qdi (s p:Str)(n:Int)(w:World):Calls Tryz.prog 406 #[.string s,.string p,.int .i64 n] w fun e w'=>e=.returned (.func (.func 407) #[] #[.pointer (some ⟨w.heap.size+1,0,none⟩),.pointer (some ⟨w.heap.size,0,none⟩),.pointer (some ⟨w.heap.size+2,0,none⟩)])∧w'=((w.alloc (.cells #[.string s] 9)).alloc (.cells #[.string p] 9)).alloc (.cells #[.int .i64 n] 3):=by
 go_enter Tryz.func406,Tryz.ntmps406
 go_wp2
 go_ret
 exact⟨rfl,rfl⟩
theorem qfa (s p:Str)(w:World):Calls Tryz.prog 398 #[.string s,.string p] w fun e w'=>e=.returned (.func (.func 407) #[] #[.pointer (some ⟨w.heap.size+1,0,none⟩),.pointer (some ⟨w.heap.size,0,none⟩),.pointer (some ⟨w.heap.size+2,0,none⟩)])∧w'=((w.alloc (.cells #[.string s] 9)).alloc (.cells #[.string p] 9)).alloc (.cells #[.int .i64 0] 3):=by
 go_enter Tryz.func398,Tryz.ntmps398
 go_wp2_with (go_at_call 406;refine(qdi _ _ _ _).mono ?_;rintro e w' ⟨rfl,rfl⟩)
 go_ret
 exact⟨rfl,rfl⟩
structure NmAt (w:World)(rest:Str)(lp:Loop)(W:World):Prop where
 b0:W.heap[w.heap.size]? =some (.cells #[.bool false] 4 (0,0))
 b1:W.heap[w.heap.size+1]? =some (.cells #[.string rest] 9 (0,0))
 b2:W.heap[w.heap.size+2]? =some (.cells #[.string ⟨#[46]⟩] 9 (0,0))
 b3:W.heap[w.heap.size+3]? =some (.cells #[.int .i64 0] 3 (0,0))
 b4:W.heap[w.heap.size+4]? =some (.deferred (some []))
 b5:W.heap[w.heap.size+5]? =some (.loop lp)
 below:Below w.heap.size w W
 dr:w.drawn≤W.drawn
theorem zdh {W:World}{B:Nat}{v:Value}{t:TypeId}(h:W.heap[B]? =some (.cells #[v] t (0,0))):W.cell? ⟨B,0,none⟩=some v∧W.frozen? ⟨B,0,none⟩=false:=by
 constructor<;>simp[World.cell?,World.frozen?,h]
theorem zus {W:World}{B:Nat}{v:Value}{t:TypeId}(h:W.heap[B]? =some (.cells #[v] t (0,0)))(x:Value):(W.setCell ⟨B,0,none⟩ x).heap[B]? =some (.cells #[x] t (0,0)):=by
 obtain⟨hlt,hk⟩:=Array.getElem?_eq_some_iff.1 h;show(W.heap.modify B _)[B]? =_;rw[Array.getElem?_eq_getElem (by rw[Array.size_modify];exact hlt),Array.getElem_modify_self,hk];rfl
theorem zcy {W:World}{B k:Nat}(x:Value)(h:k≠B):(W.setCell ⟨B,0,none⟩ x).heap[k]? =W.heap[k]? :=Below.heap_setCell W ⟨B,0,none⟩ x k h
section
variable {w W W' : World} {rest : Str} {lp : Loop}
theorem NmAt.lt (h:NmAt w rest lp W):w.heap.size+5<W.heap.size:=(Array.getElem?_eq_some_iff.1 h.b5).1
theorem NmAt.grow (h:NmAt w rest lp W)(hb:Below W.heap.size W W')(hd:W.drawn≤W'.drawn):NmAt w rest lp W':=by
 have:=h.lt;exact⟨(hb.block _ (by omega)).trans h.b0,(hb.block _ (by omega)).trans h.b1,(hb.block _ (by omega)).trans h.b2,(hb.block _ (by omega)).trans h.b3,(hb.block _ (by omega)).trans h.b4,(hb.block _ (by omega)).trans h.b5,h.below.trans (hb.mono h.below.size),Nat.le_trans h.dr hd⟩
theorem NmAt.set1 (h:NmAt w rest lp W)(r:Str):NmAt w r lp (W.setCell ⟨w.heap.size+1,0,none⟩ (.string r)):=
 ⟨(zcy _ (by omega)).trans h.b0,zus h.b1 _,(zcy _ (by omega)).trans h.b2,(zcy _ (by omega)).trans h.b3,(zcy _ (by omega)).trans h.b4,(zcy _ (by omega)).trans h.b5,h.below.setCell (p:=⟨w.heap.size+1,0,none⟩) (by simp) _,h.dr⟩
theorem NmAt.set0 (h:NmAt w rest lp W):NmAt w rest lp (W.setCell ⟨w.heap.size,0,none⟩ (.bool false)):=
 ⟨zus h.b0 _,(zcy _ (by omega)).trans h.b1,(zcy _ (by omega)).trans h.b2,(zcy _ (by omega)).trans h.b3,(zcy _ (by omega)).trans h.b4,(zcy _ (by omega)).trans h.b5,h.below.setCell (p:=⟨w.heap.size,0,none⟩) (by simp) _,h.dr⟩
theorem Below.put {B l:Nat}{w W:World}(h:Below B w W)(o:Obj)(hl:B≤l):Below B w (W.putObj l o):=
 ⟨h.os,h.tape,h.output,by simpa using h.size,fun k hk=>(World.putObj_heap_other (by omega)).trans (h.block k hk)⟩
theorem NmAt.put (h:NmAt w rest lp W)(lq:Loop):NmAt w rest lq (W.putObj (w.heap.size+5) (.loop lq)):=
 ⟨(World.putObj_heap_other (by omega)).trans h.b0,(World.putObj_heap_other (by omega)).trans h.b1,(World.putObj_heap_other (by omega)).trans h.b2,(World.putObj_heap_other (by omega)).trans h.b3,(World.putObj_heap_other (by omega)).trans h.b4,World.putObj_heap_same h.lt,Below.put h.below _ (by omega),h.dr⟩
end
end Go.Proofs.YtjoaclgkjhncjaaGreatDoor
end
section
namespace Go.G
open Go.AI
theorem zno :∀(l p:List UInt8) (i:Int),Lib.indexByte l 46=i→(i<0→zdi p l=zha (p++l))∧(0≤i→zdi p l=(zha (p++l.take i.toNat)&&zdi [] (l.drop (i.toNat+1))))
 |[],p,i,h=>by
  simp[Lib.indexByte]at h;subst h;simp[zdi]
 |c::l,p,i,h=>by
  simp only[Lib.indexByte]at h;by_cases hc:c=46
  ·subst hc;simp at h;subst h;simp[zdi]
  ·have hc':(c==46)=false:=by simpa using hc
   have ih:=zno l (p++[c]) (Lib.indexByte l 46) rfl;have h1:=Lib.indexByte_ge l 46;simp only[hc']at h;by_cases h2:Lib.indexByte l 46<0
   ·have e:Lib.indexByte l 46= -1:=by omega
    rw[e]at h;have:i= -1:=by simpa using h.symm
    subst this;exact⟨fun _=>by rw[zdi,if_neg hc,ih.1 h2];simp,fun h=>by omega⟩
   ·obtain⟨k,hk⟩:∃k:Nat,Lib.indexByte l 46=k:=⟨(Lib.indexByte l 46).toNat,by omega⟩;rw[hk]at h ih;have e:i=((k+1:Nat):Int):=by
     have:¬(k:Int)<0:=by omega
     simp[this]at h;omega
    subst e;refine⟨fun h=>by omega,fun _=>?_⟩;rw[zdi,if_neg hc,ih.2 (by omega)];simp
end Go.G
open Go.RowKit Go.Shelf
namespace Go.Proofs.YtjoaclgkjhncjaaGreatDoor
open Go.AI Go.G
attribute [local go_sem] Oper.semAt_some
theorem zuu {σ σ':Names}{I I':Nat→Prop}{w w':World}{nm:Nat}{m':Mem}(hp:Post σ I w (zac []) nm σ' I' w' m'):Below w.heap.size w w':=
 ⟨hp.os,hp.tape,hp.output.eq,hp.size,fun k hk=>hp.frame k hk (by rintro⟨b,_,_,hb,_⟩;simp[zac]at hb)⟩
theorem zr6 (s:Str)(w:World):Calls Tryz.prog 202 #[.string s] w fun e w'=>e=.returned (.bool (zda s))∧Below w.heap.size w w'∧w.drawn≤w'.drawn:=by
 refine(zfw s (fun _=>none) (fun n=>n<w.heap.size) w [.string s] (fun _ h=>h) rfl (fun i c x h1 h2=>?_) ⟨fun b k hb=>by simp[zac]at hb,fun b b' k k' x x' n hb=>by simp[zac]at hb⟩ (fun _ _=>rfl)).mono ?_
 ·match i with
  |0=>simp at h1 h2;subst h1;subst h2;exact .d (.v _)
  |i+1=>simp at h1
 ·rintro e w' ⟨v,σ',I',rfl,hp,hv⟩;cases hv with
  |d hd=>cases hd with
   |v=>exact⟨rfl,zuu hp,hp.output.drawn⟩
def qh5 (H:Nat)(W:World):Nat:=match W.cell? ⟨H+1,0,none⟩with
 |some (.string s)=>s.size
 |_=>0
theorem zwv {w W:World}{rest:Str}{r:Loop}(h:NmAt w rest r W):qh5 w.heap.size W=rest.size:=by
 simp[qh5,(zdh h.b1).1]
def NmY (w:World)(rest:Str)(r:Loop)(x:Str)(e:Ending)(W':World):Prop:=(e=.returned (.bool true)∧zda x=true∧NmAt w rest r W')∨(e=.returned (.bool false)∧zda x=false∧∃q:Loop,q.state=.done∧q.pending=some .ret∧NmAt w rest q W')
abbrev qyt (w:World)(r:Loop)(t:Bool)(W:World):Prop:=(t=true∧∃rest,NmAt w rest r W)∨(t=false∧∃rest,∃q:Loop,q.state=.done∧q.pending=some .ret∧NmAt w rest q W)
set_option maxRecDepth 100000 in
set_option maxHeartbeats 2000000 in
theorem qv1 (m:Nat)(hm:1≤m)(w:World)(s:Str)(r:Loop)(hs:(bs s).length≤40)
  (hY:∀W rest x,NmAt w rest r W→YieldAt Fence.wide (m-1) Tryz.prog (w.heap.size+5) #[.string x] W (NmY w rest r x))
  (W:World) (h:NmAt w s r W):
  CallsIn Fence.wide m Tryz.prog 407 #[.func (.yield (w.heap.size+5)) #[] #[],.pointer (some ⟨w.heap.size+2,0,none⟩),.pointer (some ⟨w.heap.size+1,0,none⟩),.pointer (some ⟨w.heap.size+3,0,none⟩)] W fun e W'=>(∃v,e=.returned v)∧qyt w r (zdi [] (bs s)) W':=by
 refine callsIn_of_wp Tryz.func407 rfl trivial ?_ rfl;simp only[Tryz.ntmps407,List.size_toArray,List.length_cons,List.length_nil,Nat.reduceAdd,Nat.reduceSub,Array.replicate_succ,Array.replicate_zero,List.push_toArray,List.append_toArray,List.nil_append,List.cons_append];have c2:=(zdh h.b2).1
 gi_wp2
 gi_loopw [7] (fun _ wr=>∃rest,NmAt w rest r wr∧zdi [] (bs rest)=zdi [] (bs s)∧(bs rest).length≤40) (fun _ wr=>qh5 w.heap.size wr)
 case atStart=>exact⟨s,h,rfl,hs⟩
 case round=>
  obtain⟨rest,hr,hg,hl⟩:=hrel;clear c2;have d1:=(zdh hr.b1).1;have d2:=(zdh hr.b2).1;have d3:=(zdh hr.b3).1;have hsp:=zno (bs rest) [] _ rfl;have hge:=Lib.indexByte_ge (bs rest) 46;have hsz:=zbq rest;unfold bs at hsp hge;by_cases hi:Lib.indexByte rest.data.toList 46<0
  ·obtain⟨f1,t1,a1,b1,hy1,hR1⟩:=hY wr rest rest hr
   gi_wp2_with (refine⟨trivial,?_⟩;gi_at_call 409;refine(callsIn_wide.2 (Tryz.strings_Index_one rest 46 _)).mono ?_;rintro e w' ⟨rfl,rfl⟩)
   refine hR1.mono ?_;have e1:zdi [] (bs s)=zda rest:=by rw[←hg];exact hsp.1 hi
   rintro e W3 (⟨rfl,hn,h3⟩|⟨rfl,hn,q,hq1,hq2,hq⟩)
   ·gi_wp2
    go_end0
    exact⟨⟨_,rfl⟩,.inl ⟨e1.trans hn,rest,h3⟩⟩
   ·gi_wp2
    go_end0
    exact⟨⟨_,rfl⟩,.inr ⟨e1.trans hn,rest,q,hq1,hq2,hq⟩⟩
  ·obtain⟨k,hk⟩:∃k:Nat,Lib.indexByte rest.data.toList 46=k:=⟨(Lib.indexByte rest.data.toList 46).toNat,by omega⟩;have hkl:k<rest.size:=by
    rw[hsz];exact(List.getElem?_eq_some_iff.1 (Lib.indexByte_some hk).1).1
   have hidx:∀(j:Nat) (w:World),CallsIn Fence.wide j Tryz.prog 409 #[.string rest,.string ⟨#[46]⟩] w fun e w'=>e=.returned (.int .i64 k)∧w'=w:=by
    intro j w;rw[←hk];exact callsIn_wide.2 (Tryz.strings_Index_one rest 46 _)
   have H1:=hsp.2 (by omega);rw[hk]at H1;have H2:zdi [] (bs s)=(zda (rest.extract 0 k)&&zdi [] (bs (rest.extract (k+1) rest.size))):=by
    rw[←hg];refine H1.trans ?_;rw[zeo,zda,zeo,hsz,List.take_length];simp[bs]
   have H3:(bs (rest.extract (k+1) rest.size)).length≤40:=by rw[zeo,hsz,List.take_length,List.length_drop];omega
   have H4:(rest.extract (k+1) rest.size).size<rest.size:=by simp;omega
   have H5:rest.size≤40:=by omega
   clear H1 hsp hge hsz hk hi;obtain⟨f1,t1,a1,b1,hy1,hR1⟩:=hY wr rest (rest.extract 0 k) hr
   gi_wp2_with (refine⟨trivial,?_⟩;gi_at_call 409;refine(hidx _ _).mono ?_;rintro e w' ⟨rfl,rfl⟩)
   refine hR1.mono ?_;clear d1 d2 d3;rintro e W3 (⟨rfl,hn,h3⟩|⟨rfl,hn,q,hq1,hq2,hq⟩)
   ·obtain⟨d1,d4⟩:=zdh h3.b1;have d2:=(zdh h3.b2).1
    gi_wp2
    go_roundw
    case rel=>exact⟨rest.extract (k+1) rest.size,h3.set1 _,by rw[H2,hn];rfl,H3⟩
    case measure=>rw[zwv (h3.set1 _),zwv hr];exact H4
   ·gi_wp2
    refine bodyPost_ret (results_none rfl _ _ _) rfl ?_;exact⟨⟨_,rfl⟩,.inr ⟨by rw[H2,hn];rfl,rest,q,hq1,hq2,hq⟩⟩
set_option maxRecDepth 100000 in
set_option maxHeartbeats 2000000 in
theorem qsb (s:Str)(hs:(bs s).length≤40)(w:World):Calls Tryz.prog 381 #[.string s] w fun e w'=>e=.returned (.bool (zdi [] (bs s)))∧Below w.heap.size w w'∧w.drawn≤w'.drawn:=by
 refine(callsIn_wide (n:=4)).1 ?_;refine callsIn_of_wp_marks Tryz.func381 rfl trivial ?_ rfl;simp only[Tryz.ntmps381,List.size_toArray,List.length_cons,List.length_nil,Nat.reduceAdd,Nat.reduceSub,Array.replicate_succ,Array.replicate_zero,List.push_toArray,List.append_toArray,List.nil_append,List.cons_append]
 gi_wp2_with (refine⟨trivial,?_⟩;gi_at_call 398;refine(callsIn_wide.2 (qfa _ _ _)).mono ?_;rintro e w' ⟨rfl,rfl⟩)
 obtain⟨W0,hW0⟩:∃W0,(((w.alloc (.cells #[.bool false] 4)).alloc (.cells #[.string s] 9)).alloc (.cells #[.string ⟨#[46]⟩] 9)).alloc (.cells #[.int .i64 0] 3)=W0:=⟨_,rfl⟩;have hs0:W0.heap.size=w.heap.size+4:=by rw[←hW0];simp
 have k0:W0.heap[w.heap.size]? =some (.cells #[.bool false] 4 (0,0)):=by
  rw[←hW0];exact(((Below.heap_alloc _ _ _ (by simp;omega)).trans (Below.heap_alloc _ _ _ (by simp;omega))).trans (Below.heap_alloc _ _ _ (by simp))).trans (World.alloc_heap_new w _)
 have k1:W0.heap[w.heap.size+1]? =some (.cells #[.string s] 9 (0,0)):=by
  rw[←hW0];refine((Below.heap_alloc _ _ _ (by simp)).trans (Below.heap_alloc _ _ _ (by simp))).trans ?_;have:=World.alloc_heap_new (w.alloc (.cells #[.bool false] 4)) (.cells #[.string s] 9);rwa[World.size_alloc]at this
 have k2:W0.heap[w.heap.size+2]? =some (.cells #[.string ⟨#[46]⟩] 9 (0,0)):=by
  rw[←hW0];refine(Below.heap_alloc _ _ _ (by simp)).trans ?_;have:=World.alloc_heap_new ((w.alloc (.cells #[.bool false] 4)).alloc (.cells #[.string s] 9)) (.cells #[.string ⟨#[46]⟩] 9);rwa[World.size_alloc,World.size_alloc]at this
 have k3:W0.heap[w.heap.size+3]? =some (.cells #[.int .i64 0] 3 (0,0)):=by
  rw[←hW0];have:=World.alloc_heap_new (((w.alloc (.cells #[.bool false] 4)).alloc (.cells #[.string s] 9)).alloc (.cells #[.string ⟨#[46]⟩] 9)) (.cells #[.int .i64 0] 3);rwa[World.size_alloc,World.size_alloc,World.size_alloc]at this
 have kb:Below w.heap.size w W0:=by
  rw[←hW0];exact((((Below.refl _ w).alloc (Nat.le_refl _) _).alloc (by simp) _).alloc (by simp;omega) _).alloc (by simp;omega) _
 have kd:w.drawn≤W0.drawn:=by rw[←hW0];exact Nat.le_refl _
 rw[hW0];clear hW0;refine qa9 rfl (by omega) rfl trivial (enters_of Tryz.func407 (by kernel_rfl) rfl) ?_;rintro fn hfn r hr;rw[hs0]at hr⊢;have k5:((W0.alloc (.deferred (some []))).alloc (.loop r)).heap[w.heap.size+5]? =some (.loop r):=by
  have:=World.alloc_heap_new (W0.alloc (.deferred (some []))) (.loop r);rwa[World.size_alloc,hs0]at this
 have hold:∀k,k<w.heap.size+4→((W0.alloc (.deferred (some []))).alloc (.loop r)).heap[k]? =W0.heap[k]? :=fun k hk=>
  (Below.heap_alloc _ _ k (by simp;omega)).trans (Below.heap_alloc _ _ k (by omega))
 have k4:((W0.alloc (.deferred (some []))).alloc (.loop r)).heap[w.heap.size+4]? =some (.deferred (some [])):=by
  refine(Below.heap_alloc _ _ _ (by simp;omega)).trans ?_;have:=World.alloc_heap_new W0 (.deferred (some []));rwa[hs0]at this
 have hN:NmAt w s r ((W0.alloc (.deferred (some []))).alloc (.loop r)):=
  ⟨(hold _ (by omega)).trans k0,(hold _ (by omega)).trans k1,(hold _ (by omega)).trans k2,(hold _ (by omega)).trans k3,k4,k5,(kb.alloc (by omega) _).alloc (by simp;omega) _,kd⟩
 have hY:∀W rest x,NmAt w rest r W→YieldAt Fence.wide (4-1-1) Tryz.prog (w.heap.size+5) #[.string x] W (NmY w rest r x):=by
  intro W rest x h;have hp:=h.put {r with state:=.busy};refine qlr h.b5 (by rw[hr]) (by rw[hr];rfl) trivial {tmps:=#[.string s,undef,.pointer (some ⟨w.heap.size,0,none⟩),.string x,.string s,.func (.func 407) #[] #[.pointer (some ⟨w.heap.size+1+1,0,none⟩),.pointer (some ⟨w.heap.size+1,0,none⟩),.pointer (some ⟨w.heap.size+1+2,0,none⟩)],.string x,undef,undef,undef],defers:=[]} W h.b5 ?_ ?_
  ·intro K hK;rw[hr]
   gi_wp2
   exact hK
  ·generalize hWb:W.putObj (w.heap.size+5) (.loop {r with state:=.busy})=Wb at hp;have hbd:=congrArg Loop.body hr;have hrr:∀W3,NmAt w rest {r with state:=.busy} W3→NmAt w rest r (W3.putObj (w.heap.size+5) (.loop {{r with state:=.busy}with state:=if(none:Option Code).isNone then .ready else .done,pending:=none})):=fun W3 h3=>by
    have:=h3.put r;rw[hr]at this⊢;exact this
   dsimp only at hbd;rw[hbd];clear hbd hr hs0 k0 k1 k2 k3 k4 k5 kb hold hN hWb h;cases hv:zda x with
   |true=>
    have hc:∀(j:Nat) (W:World),CallsIn (Fence.wide.inRound (w.heap.size+5)) j Tryz.prog 202 #[.string x] W fun e w'=>e=.returned (.bool true)∧Below W.heap.size W w'∧W.drawn≤w'.drawn:=fun j W=>by
     rw[←hv];exact CallsIn.inRound _ (callsIn_wide.2 (zr6 x W))
    gi_wp2_with (refine⟨trivial,?_⟩;gi_at_call 202;refine(hc _ _).mono ?_;rintro e w' ⟨rfl,hB,hD⟩)
    exact⟨none,rfl,_,(hp.grow hB hD).b5,.inl ⟨rfl,hv,hrr _ (hp.grow hB hD)⟩⟩
   |false=>
    have hc:∀(j:Nat) (W:World),CallsIn (Fence.wide.inRound (w.heap.size+5)) j Tryz.prog 202 #[.string x] W fun e w'=>e=.returned (.bool false)∧Below W.heap.size W w'∧W.drawn≤w'.drawn:=fun j W=>by
     rw[←hv];exact CallsIn.inRound _ (callsIn_wide.2 (zr6 x W))
    have hc2:∀(j:Nat),CallsIn (Fence.wide.inRound (w.heap.size+5)) j Tryz.prog 202 #[.string x] Wb fun e w'=>e=.returned (.bool false)∧NmAt w rest {r with state:=.busy} w'∧w'.cell? ⟨w.heap.size,0,none⟩=some (.bool false)∧w'.frozen? ⟨w.heap.size,0,none⟩=false:=fun j=>
     (hc j Wb).mono fun e w' ⟨h1,hB,hD⟩=>⟨h1,hp.grow hB hD,(zdh (hp.grow hB hD).b0).1,(zdh (hp.grow hB hD).b0).2⟩
    gi_wp2_with (refine⟨trivial,?_⟩;gi_at_call 202;refine(hc2 _).mono ?_;rintro e w' ⟨rfl,hB,hB2,hB3⟩)
    exact⟨some .ret,rfl,_,hB.set0.b5,.inr ⟨rfl,hv,_,rfl,rfl,hB.set0.put _⟩⟩
 refine(qv1 3 (by omega) w s r hs hY _ hN).mono ?_;clear hY hN hold k0 k1 k2 k3 k4 k5 kb;rintro e W2 ⟨hv,hO⟩;refine⟨hv,?_⟩;have hend:∀(W3:World) (q:Loop) (rest:Str),NmAt w rest q W3→∀t:Bool,(Below w.heap.size w ((W3.setCell ⟨w.heap.size,0,none⟩ (.bool t)).putObj (w.heap.size+4) (.deferred none))∧w.drawn≤((W3.setCell ⟨w.heap.size,0,none⟩ (.bool t)).putObj (w.heap.size+4) (.deferred none)).drawn)∧((W3.setCell ⟨w.heap.size,0,none⟩ (.bool t)).putObj (w.heap.size+4) (.deferred none)).cell? ⟨w.heap.size,0,none⟩=some (.bool t)∧(W3.setCell ⟨w.heap.size,0,none⟩ (.bool t)).heap[w.heap.size+4]? =some (.deferred (some [])):=fun W3 q rest h t=>
  ⟨⟨Below.put (h.below.setCell (p:=⟨w.heap.size,0,none⟩) (by simp) _) _ (by omega),h.dr⟩,(World.cell?_of_block (World.putObj_heap_other (by show w.heap.size≠_;omega))).trans (zdh (zus h.b0 _)).1,(zcy _ (by omega)).trans h.b4⟩
 rcases hO with⟨ht,rest,h⟩|⟨ht,rest,q,q1,q2,h⟩
 ·refine⟨r,h.b5,by rw[hr];simp,?_⟩;rw[show r.pending=none by rw[hr]];have hp:NmAt w rest {r with state:=.exhausted,pending:=none} (W2.putObj (w.heap.size+4+1) (.loop {r with state:=.exhausted,pending:=none})):=h.put _;generalize W2.putObj (w.heap.size+4+1) _=W3 at hp⊢;obtain⟨e1,e2⟩:=zdh hp.b0;obtain⟨f1,f2,f3⟩:=hend W3 _ rest hp true;clear hp h hr hs0 hend
  gi_wp2
  refine⟨by simp,.inl ⟨_,_,rfl,run_takeDeferred f3,?_⟩⟩;exact⟨_,by simp[results,Tryz.f381,go_sem,f2];rfl,by rw[ht],f1⟩
 ·refine⟨q,h.b5,by rw[q1];simp,?_⟩;rw[q2];have hp:NmAt w rest {q with state:=.exhausted,pending:=some .ret} (W2.putObj (w.heap.size+4+1) (.loop {q with state:=.exhausted,pending:=some .ret})):=h.put _;generalize W2.putObj (w.heap.size+4+1) _=W3 at hp⊢;have f1:Below w.heap.size w (W3.putObj (w.heap.size+4) (.deferred none))∧w.drawn≤(W3.putObj (w.heap.size+4) (.deferred none)).drawn:=⟨Below.put hp.below (.deferred none) (l:=w.heap.size+4) (by omega),hp.dr⟩;have f2:(W3.putObj (w.heap.size+4) (.deferred none)).cell? ⟨w.heap.size,0,none⟩=some (.bool false):=(World.cell?_of_block (World.putObj_heap_other (by show w.heap.size≠_;omega))).trans (zdh hp.b0).1;have f3:=hp.b4;clear hp h hr hs0 hend
  gi_wp2
  refine⟨by simp,.inl ⟨_,_,rfl,run_takeDeferred f3,?_⟩⟩;exact⟨_,by simp[results,Tryz.f381,go_sem,f2];rfl,by rw[ht],f1⟩
theorem qr9 (s:Str)(hl:(bs s).length≤40):Ct Tryz.prog 381 [str s] [] [] (bool (zdi [] (bs s))) []:=Ct.grow (xs:=[.string s]) (fun w=>qsb s hl w)
end Go.Proofs.YtjoaclgkjhncjaaGreatDoor
end
namespace Go.Proofs.YtjoaclgkjhncjaaGreatDoor
open Go.AI Go.G
attribute [simp] Tryz.ntmps336 Tryz.results336
theorem qi3 (s:Str):Ct Tryz.prog 336 [str s] [] [] (bool (zm0 s)) []:=by
 refine Ct.B Tryz.func336 mixed 9999 400 ?_;simp;have hsz:=zbq s;refine sGI (fun h1=>?_) (fun h1=>?_)<;>simp only[h1]<;>simp[hsz]
 ·have hz:(bs s).length≤40:=by have:=of_decide_eq_true h1;omega
  refine sGI (fun h2=>?_) (fun h2=>?_)<;>simp only[h2]<;>simp
  ·have e:bs s=[42]:=by rw[of_decide_eq_true h2];rfl
   first|exact fin0 (by simp[zm0,e]) rfl|exact zaa (by simp[zm0,e])
  have e:¬bs s=[42]:=by
   intro e;exact of_decide_eq_false h2 (zsq e)
  refine CI.p (zys s ⟨#[42,46]⟩) Tryz.call382 9999 ?_;simp;have e2:bs (zs3 s ⟨#[42,46]⟩)=if zta (bs s)then(bs s).drop 2 else bs s:=by
   unfold zs3 zta;rw[show bs ⟨#[42,46]⟩=[42,46]from rfl];simp only[List.length_cons,List.length_nil];split
   ·rw[zeo,hsz,List.take_length]
   ·rfl
  refine CI.p (qr9 (zs3 s ⟨#[42,46]⟩) (by rw[e2];split;rw[List.length_drop];omega;exact hz)) Tryz.call381 9999 ?_;simp;rw[e2];first|exact fin0 (by simp[←qb4,qm4,hz,e]) rfl|exact zaa (by simp[←qb4,qm4,hz,e])
 ·have hz:¬((bs s).length≤40):=by have:=of_decide_eq_false h1;omega
  first|exact fin0 (by simp[zm0,hz]) rfl|exact zaa (by simp[zm0,hz])
set_option maxRecDepth 20000
attribute [simp] Tryz.ntmps334 Tryz.results334
theorem qeb (l:List Weight)(kf:D)(p:Weight→Bool)(hf:∀x∈l,FnOk Tryz.prog (.d kf) [st (wC x)] (bool (p x)))(hl:l.length≤9223372036854775807):Ct Tryz.prog 334 [lst (l.map wC),.d kf] [] [] (int (idxF p l)) []:=by
 refine Ct.B Tryz.func334 mixed 9999 400 ?_;simp;refine LoopI.inv mixed rfl (ι:={k:Nat//k≤(l).length∧(l.take k).all (fun x=>!p x)=true}) (fun k=>[(0,lst (l.map wC)),(1,.d kf),(7,int l.length),(8,int k.1)]) (fun k=>[]) 64 (fun k=>(l).length-k.1) ⟨0,by omega,by simp⟩ [] (by constructor<;>simp) ?_;rintro⟨k,hk1,hi⟩ B hB;refine CI.run 9999 400 rfl ?_;simp;refine sBI (fun h=>?_) (fun h=>?_)
 ·have hk:k<(l).length:=by simpa using h
  obtain⟨r,hx,hr,hm,ht,hd⟩:=inL hk;have hw:=wr (k:=k) (by omega);simp only[h];simp[hr,hw];refine CI.ff (hf r hm) rfl rfl rfl 9999 ?_;simp;refine sBI (fun hp=>?_) (fun hp=>?_)<;>simp only[hp]<;>simp
  ·first|exact fin0 (by simp[zc2 hi hr hp]) rfl|exact zaa (by simp[zc2 hi hr hp])
  ·refine hB _ ⟨k+1,by omega,by simp[ht,hi,hp]⟩ [] ?_ (by simp;omega);constructor<;>simp[hw,ht,hp]
 ·have hkl:k=(l).length:=by simp at h;omega
  subst hkl;simp only[h];simp[List.take_length,List.drop_length];rw[List.take_length]at hi;first|exact fin0 (by simp[zbi (fun x hx=>by have:=List.all_eq_true.1 hi x hx;simpa using this)]) rfl|exact zaa (by simp[zbi (fun x hx=>by have:=List.all_eq_true.1 hi x hx;simpa using this)])
attribute [simp] Tryz.ntmps266 Tryz.results266
theorem zm5 (l:List Weight)(kf:D)(p:Weight→Bool)(hf:∀x∈l,FnOk Tryz.prog (.d kf) [st (wC x)] (bool (p x)))(hl:l.length≤9223372036854775807):Ct Tryz.prog 266 [lst (l.map wC),.d kf] [] [] (bool (l.any p)) []:=by
 refine Ct.B Tryz.func266 mixed 9999 400 ?_;simp;refine CI.p (qeb l kf p hf hl) Tryz.call334 9999 ?_;simp;rw[zgp];first|exact fin0 (by simp) rfl|exact zaa (by simp)
attribute [simp] Tryz.ntmps335 Tryz.results335
theorem qmz (l:List Rule)(kf:D)(p:Rule→Bool)(hf:∀x∈l,FnOk Tryz.prog (.d kf) [st (zbk x)] (bool (p x)))(hl:l.length≤9223372036854775807):Ct Tryz.prog 335 [lst (l.map zbk),.d kf] [] [] (int (idxF p l)) []:=by
 refine Ct.B Tryz.func335 mixed 9999 400 ?_;simp;refine LoopI.inv mixed rfl (ι:={k:Nat//k≤(l).length∧(l.take k).all (fun x=>!p x)=true}) (fun k=>[(0,lst (l.map zbk)),(1,.d kf),(7,int l.length),(8,int k.1)]) (fun k=>[]) 64 (fun k=>(l).length-k.1) ⟨0,by omega,by simp⟩ [] (by constructor<;>simp) ?_;rintro⟨k,hk1,hi⟩ B hB;refine CI.run 9999 400 rfl ?_;simp;refine sBI (fun h=>?_) (fun h=>?_)
 ·have hk:k<(l).length:=by simpa using h
  obtain⟨r,hx,hr,hm,ht,hd⟩:=inL hk;have hw:=wr (k:=k) (by omega);simp only[h];simp[hr,hw];refine CI.ff (hf r hm) rfl rfl rfl 9999 ?_;simp;refine sBI (fun hp=>?_) (fun hp=>?_)<;>simp only[hp]<;>simp
  ·first|exact fin0 (by simp[zc2 hi hr hp]) rfl|exact zaa (by simp[zc2 hi hr hp])
  ·refine hB _ ⟨k+1,by omega,by simp[ht,hi,hp]⟩ [] ?_ (by simp;omega);constructor<;>simp[hw,ht,hp]
 ·have hkl:k=(l).length:=by simp at h;omega
  subst hkl;simp only[h];simp[List.take_length,List.drop_length];rw[List.take_length]at hi;first|exact fin0 (by simp[zbi (fun x hx=>by have:=List.all_eq_true.1 hi x hx;simpa using this)]) rfl|exact zaa (by simp[zbi (fun x hx=>by have:=List.all_eq_true.1 hi x hx;simpa using this)])
attribute [simp] Tryz.ntmps270 Tryz.results270
theorem zux (l:List Rule)(kf:D)(p:Rule→Bool)(hf:∀x∈l,FnOk Tryz.prog (.d kf) [st (zbk x)] (bool (p x)))(hl:l.length≤9223372036854775807):Ct Tryz.prog 270 [lst (l.map zbk),.d kf] [] [] (bool (l.any p)) []:=by
 refine Ct.B Tryz.func270 mixed 9999 400 ?_;simp;refine CI.p (qmz l kf p hf hl) Tryz.call335 9999 ?_;simp;rw[zgp];first|exact fin0 (by simp) rfl|exact zaa (by simp)
attribute [simp] Tryz.ntmps41 Tryz.results41
theorem zuf (l:List Res)(kf:D)(p:Res→Bool)(hf:∀x∈l,FnOk Tryz.prog (.d kf) [st (resC x)] (bool (p x)))(hl:l.length≤9223372036854775807):Ct Tryz.prog 41 [lst (l.map resC),.d kf] [] [] (int (idxF p l)) []:=by
 refine Ct.B Tryz.func41 mixed 9999 400 ?_;simp;refine LoopI.inv mixed rfl (ι:={k:Nat//k≤(l).length∧(l.take k).all (fun x=>!p x)=true}) (fun k=>[(0,lst (l.map resC)),(1,.d kf),(7,int l.length),(8,int k.1)]) (fun k=>[]) 64 (fun k=>(l).length-k.1) ⟨0,by omega,by simp⟩ [] (by constructor<;>simp) ?_;rintro⟨k,hk1,hi⟩ B hB;refine CI.run 9999 400 rfl ?_;simp;refine sBI (fun h=>?_) (fun h=>?_)
 ·have hk:k<(l).length:=by simpa using h
  obtain⟨r,hx,hr,hm,ht,hd⟩:=inL hk;have hw:=wr (k:=k) (by omega);simp only[h];simp[hr,hw];refine CI.ff (hf r hm) rfl rfl rfl 9999 ?_;simp;refine sBI (fun hp=>?_) (fun hp=>?_)<;>simp only[hp]<;>simp
  ·first|exact fin0 (by simp[zc2 hi hr hp]) rfl|exact zaa (by simp[zc2 hi hr hp])
  ·refine hB _ ⟨k+1,by omega,by simp[ht,hi,hp]⟩ [] ?_ (by simp;omega);constructor<;>simp[hw,ht,hp]
 ·have hkl:k=(l).length:=by simp at h;omega
  subst hkl;simp only[h];simp[List.take_length,List.drop_length];rw[List.take_length]at hi;first|exact fin0 (by simp[zbi (fun x hx=>by have:=List.all_eq_true.1 hi x hx;simpa using this)]) rfl|exact zaa (by simp[zbi (fun x hx=>by have:=List.all_eq_true.1 hi x hx;simpa using this)])
attribute [simp] Tryz.ntmps139 Tryz.results139
theorem qkf (l:List Res)(kf:D)(p:Res→Bool)(hf:∀x∈l,FnOk Tryz.prog (.d kf) [st (resC x)] (bool (p x)))(hl:l.length≤9223372036854775807):Ct Tryz.prog 139 [lst (l.map resC),.d kf] [] [] (bool (l.any p)) []:=by
 refine Ct.B Tryz.func139 mixed 9999 400 ?_;simp;refine CI.p (zuf l kf p hf hl) Tryz.call41 9999 ?_;simp;rw[zgp];first|exact fin0 (by simp) rfl|exact zaa (by simp)
attribute [simp] Tryz.ntmps208 Tryz.results208
theorem qsu (l:List Key)(kf:D)(p:Key→Bool)(hf:∀x∈l,FnOk Tryz.prog (.d kf) [st (keyC x)] (bool (p x)))(hl:l.length≤9223372036854775807):Ct Tryz.prog 208 [lst (l.map keyC),.d kf] [] [] (int (idxF p l)) []:=by
 refine Ct.B Tryz.func208 mixed 9999 400 ?_;simp;refine LoopI.inv mixed rfl (ι:={k:Nat//k≤(l).length∧(l.take k).all (fun x=>!p x)=true}) (fun k=>[(0,lst (l.map keyC)),(1,.d kf),(7,int l.length),(8,int k.1)]) (fun k=>[]) 64 (fun k=>(l).length-k.1) ⟨0,by omega,by simp⟩ [] (by constructor<;>simp) ?_;rintro⟨k,hk1,hi⟩ B hB;refine CI.run 9999 400 rfl ?_;simp;refine sBI (fun h=>?_) (fun h=>?_)
 ·have hk:k<(l).length:=by simpa using h
  obtain⟨r,hx,hr,hm,ht,hd⟩:=inL hk;have hw:=wr (k:=k) (by omega);simp only[h];simp[hr,hw];refine CI.ff (hf r hm) rfl rfl rfl 9999 ?_;simp;refine sBI (fun hp=>?_) (fun hp=>?_)<;>simp only[hp]<;>simp
  ·first|exact fin0 (by simp[zc2 hi hr hp]) rfl|exact zaa (by simp[zc2 hi hr hp])
  ·refine hB _ ⟨k+1,by omega,by simp[ht,hi,hp]⟩ [] ?_ (by simp;omega);constructor<;>simp[hw,ht,hp]
 ·have hkl:k=(l).length:=by simp at h;omega
  subst hkl;simp only[h];simp[List.take_length,List.drop_length];rw[List.take_length]at hi;first|exact fin0 (by simp[zbi (fun x hx=>by have:=List.all_eq_true.1 hi x hx;simpa using this)]) rfl|exact zaa (by simp[zbi (fun x hx=>by have:=List.all_eq_true.1 hi x hx;simpa using this)])
attribute [simp] Tryz.ntmps137 Tryz.results137
theorem zuy (l:List Key)(kf:D)(p:Key→Bool)(hf:∀x∈l,FnOk Tryz.prog (.d kf) [st (keyC x)] (bool (p x)))(hl:l.length≤9223372036854775807):Ct Tryz.prog 137 [lst (l.map keyC),.d kf] [] [] (bool (l.any p)) []:=by
 refine Ct.B Tryz.func137 mixed 9999 400 ?_;simp;refine CI.p (qsu l kf p hf hl) Tryz.call208 9999 ?_;simp;rw[zgp];first|exact fin0 (by simp) rfl|exact zaa (by simp)
attribute [simp] Tryz.ntmps201 Tryz.results201
theorem zu6 (n m:Int):Ct Tryz.prog 201 [int n,int m] [] [] (bool (rngB n m)) []:=by
 refine Ct.B Tryz.func201 mixed 9999 400 ?_;simp
 repeat' first
  | (refine sGI (fun h=>?_) (fun h=>?_)<;>simp only[h]<;>simp[h])
  | (refine sBI (fun h=>?_) (fun h=>?_)<;>simp only[h]<;>simp[h])
  | (refine⟨(show zba _ _ from by decide+kernel),?_⟩)
  |fail
 all_goals exact fin0 (by simp[*,rngB]) rfl
attribute [simp] Tryz.ntmps267 Tryz.results267
theorem quu (w:Weight):Ct Tryz.prog 267 [st (wC w)] [] [] (bool (!rngB w.w 100)) []:=by
 refine Ct.B Tryz.func267 mixed 9999 400 ?_;simp;refine CI.p (zu6 w.w 100) Tryz.call201 9999 ?_;simp;first|exact fin0 (by simp) rfl|exact zaa (by simp)
attribute [simp] Tryz.ntmps203 Tryz.results203
theorem qqm (r:Res):Ct Tryz.prog 203 [st (resC r)] [] [] (bool (zco r)) []:=by
 refine Ct.B Tryz.func203 mixed 9999 400 ?_;simp;refine CI.p (zu6 r.ver 2147483647) Tryz.call201 9999 ?_;simp;refine sGI (fun h1=>?_) (fun h1=>?_)<;>simp only[h1]<;>simp<;>(try simp only[nT,nF,dT,dF]at h1)
 ·first|exact fin0 (by simp[zco,h1]) rfl|exact zaa (by simp[zco,h1])
 refine CI.p (zu6 r.port 65535) Tryz.call201 9999 ?_;simp;refine sGI (fun h2=>?_) (fun h2=>?_)<;>simp only[h2]<;>simp<;>(try simp only[nT,nF,dT,dF]at h2)
 ·first|exact fin0 (by simp[zco,h2]) rfl|exact zaa (by simp[zco,h2])
 refine sGI (fun h3=>?_) (fun h3=>?_)<;>simp only[h3]<;>simp<;>(try simp only[nT,nF,dT,dF]at h3)
 ·have hz:¬r.rules.length≤8:=by omega
  first|exact fin0 (by simp[zco,hz]) rfl|exact zaa (by simp[zco,hz])
 refine sBI (fun h4=>?_) (fun h4=>?_)<;>simp only[h4]<;>simp<;>(try simp only[nT,nF,dT,dF]at h4)
 ·have hz:¬r.hosts.length≤8:=by omega
  first|exact fin0 (by simp[zco,hz]) rfl|exact zaa (by simp[zco,hz])
 have hz3:r.rules.length≤8:=by omega
 have hz4:r.hosts.length≤8:=by omega
 refine LoopI.inv mixed rfl (ι:={k:Nat//k≤(r.hosts).length∧(r.hosts.take k).all (fun h=>rngB h 2147483647)=true}) (fun k=>[(1,.ptr 64 0),(30,lst (r.hosts.map intC)),(31,int r.hosts.length),(32,int k.1)]) (fun k=>[(64,.cells ((resC r).map .d) 67)]) 65 (fun k=>(r.hosts).length-k.1) ⟨0,by omega,by simp⟩ [] (by constructor<;>simp) ?_;rintro⟨k,hk1,hi⟩ B hB;refine CI.run 9999 400 rfl ?_;simp;refine sBI (fun h=>?_) (fun h=>?_)
 ·have hk:k<(r.hosts).length:=by simpa using h
  obtain⟨y,hx,hr,hm,ht,hd⟩:=inL hk;have hw:=wr (k:=k) (by omega);simp only[h];simp[hr,hw];refine CI.p (zu6 y 2147483647) Tryz.call201 9999 ?_;simp;refine sBI (fun h5=>?_) (fun h5=>?_)<;>simp only[h5]<;>simp<;>(try simp only[nT,nF,dT,dF]at h5)
  ·have e:r.hosts.all (fun h=>rngB h 2147483647)=false:=by
    rw[List.all_eq_false];exact⟨y,hm,by simp[h5]⟩
   first|exact fin0 (by simp[zco,e]) rfl|exact zaa (by simp[zco,e])
  ·refine hB _ ⟨k+1,by omega,by simp[ht,hi,h5]⟩ [] ?_ (by simp;omega);constructor<;>simp[hw,ht,h5]
 ·have hkl:k=(r.hosts).length:=by simp at h;omega
  subst hkl;simp only[h];simp[List.take_length,List.drop_length];rw[List.take_length]at hi;have hh:=hi;refine LoopI.inv mixed rfl (ι:={k:Nat//k≤(r.rules).length∧(r.rules.take k).all zh8=true}) (fun k=>[(1,.ptr 64 0),(41,lst (r.rules.map zbk)),(42,int r.rules.length),(43,int k.1)]) (fun k=>[(64,.cells ((resC r).map .d) 67)]) 65 (fun k=>(r.rules).length-k.1) ⟨0,by omega,by simp⟩ [] (by constructor<;>simp) ?_;rintro⟨k,hk1,hi⟩ B hB;refine CI.run 9999 400 rfl ?_;simp;refine sBI (fun h=>?_) (fun h=>?_)
  ·have hk:k<(r.rules).length:=by simpa using h
   obtain⟨x,hx,hr,hm,ht,hd⟩:=inL hk;have hw:=wr (k:=k) (by omega);simp only[h];simp[hr,hw];refine sGI (fun h6=>?_) (fun h6=>?_)<;>simp only[h6]<;>simp<;>(try simp only[nT,nF,dT,dF]at h6)
   ·have hz:¬x.split.length≤4:=by omega
    have e:r.rules.all zh8=false:=by
     rw[List.all_eq_false];exact⟨x,hm,by simp[zh8,hz]⟩
    first|exact fin0 (by simp[zco,e]) rfl|exact zaa (by simp[zco,e])
   have hz:x.split.length≤4:=by omega
   refine CI.p (zm5 x.split (fnD 267) (fun w=>!rngB w.w 100) (fun w _=>FnOk.of (quu w) Tryz.call267 rfl rfl) (by omega)) Tryz.call266 9999 ?_;simp;refine sBI (fun h7=>?_) (fun h7=>?_)<;>simp only[h7]<;>simp<;>(try simp only[nT,nF,dT,dF]at h7)
   ·have e:r.rules.all zh8=false:=by
     rw[List.all_eq_false];refine⟨x,hm,?_⟩;simp[zh8,hz];simpa using h7
    first|exact fin0 (by simp[zco,e]) rfl|exact zaa (by simp[zco,e])
   ·have e:zh8 x=true:=by
     simp[zh8,hz];simpa using h7
    refine hB _ ⟨k+1,by omega,by simp[ht,hi,e]⟩ [] ?_ (by simp;omega);constructor<;>simp[hw,ht,e]
  ·have hkl:k=(r.rules).length:=by simp at h;omega
   subst hkl;simp only[h];simp[List.take_length,List.drop_length];rw[List.take_length]at hi;first|exact fin0 (by simp[zco,hi,hh,h1,h2,hz3,hz4]) rfl|exact zaa (by simp[zco,hi,hh,h1,h2,hz3,hz4])
attribute [simp] Tryz.ntmps269 Tryz.results269
theorem qv8 (k:Int):Ct Tryz.prog 269 [int k] [] [] (.agg [bool (mayP k),bool (mayT k),bool (mayR k),bool (mayH k)]) []:=by
 refine Ct.B Tryz.func269 mixed 9999 400 ?_;simp
 repeat' first
  | (refine sGI (fun h=>?_) (fun h=>?_)<;>simp only[h]<;>simp[h])
  | (refine sBI (fun h=>?_) (fun h=>?_)<;>simp only[h]<;>simp[h])
  | (refine⟨(show zba _ _ from by decide+kernel),?_⟩)
  |fail
 all_goals exact fin0 (by simp[*,mayP,mayT,mayR,mayH]) rfl
attribute [simp] Tryz.ntmps268 Tryz.results268
theorem qyo (a b c d x y z t:Bool):Ct Tryz.prog 268 [.agg [bool a,bool b,bool c,bool d],.agg [bool x,bool y,bool z,bool t]] [] [] (.agg [bool (a&&x),bool (b&&y),bool (c&&z),bool (d&&t)]) []:=by
 refine Ct.B Tryz.func268 mixed 9999 400 ?_;simp;cases a<;>cases b<;>cases c<;>cases d<;>(simp[Tryz.ntmps127,Tryz.results127])<;>exact fin0 (by simp) rfl
attribute [simp] Tryz.ntmps204 Tryz.results204
theorem qld (r:Res):Ct Tryz.prog 204 [st (resC r)] [] [] (bool (zgx r)) []:=by
 refine Ct.B Tryz.func204 mixed 9999 400 ?_;simp;refine CI.p (qv8 r.kind) Tryz.call269 9999 ?_;simp;refine CI.p (qyo (!decide (r.port=0)) (!decide (r.to=⟨#[]⟩)) (decide (0<r.rules.length)) (decide (0<r.hosts.length)) (mayP r.kind) (mayT r.kind) (mayR r.kind) (mayH r.kind)) Tryz.call268 9999 ?_;simp;refine⟨by decide+kernel,?_⟩;have e1:decide (r.rules.length=0)= !decide (0<r.rules.length):=by cases r.rules<;>simp
 have e2:decide (r.hosts.length=0)= !decide (0<r.hosts.length):=by cases r.hosts<;>simp
 have e3:decide (bs r.to=[])=decide (r.to=⟨#[]⟩):=by
  rw[Bool.eq_iff_iff,decide_eq_true_eq,decide_eq_true_eq,zvi];rfl
 have e:zgx r=((decide (r.port=0)||mayP r.kind)&&((decide (r.to=⟨#[]⟩)||mayT r.kind)&&((!decide (0<r.rules.length)||mayR r.kind)&&(!decide (0<r.hosts.length)||mayH r.kind)))):=by
  rw[zgx,e1,e2,e3,Bool.and_assoc,Bool.and_assoc]
 rw[e];first|exact fin0 (by simp) rfl|exact zaa (by simp)
attribute [simp] Tryz.ntmps338 Tryz.results338
theorem qxv (w:Weight):Ct Tryz.prog 338 [st (wC w)] [] [] (bool (!zda w.cluster)) []:=by
 refine Ct.B Tryz.func338 mixed 9999 400 ?_;simp;refine CI.p (zfw w.cluster) Tryz.call202 9999 ?_;simp;first|exact fin0 (by simp) rfl|exact zaa (by simp)
attribute [simp] Tryz.ntmps339 Tryz.results339
theorem qpi (w:Weight):Ct Tryz.prog 339 [st (wC w)] [] [] (bool (decide (0<w.w))) []:=by
 refine Ct.B Tryz.func339 mixed 9999 400 ?_;simp;first|exact fin0 (by simp) rfl|exact zaa (by simp)
attribute [simp] Tryz.ntmps274 Tryz.results274
theorem qkq (x:Rule)(hl:x.split.length≤4):Ct Tryz.prog 274 [st (zbk x)] [] [] (bool (zmg x)) []:=by
 refine Ct.B Tryz.func274 mixed 9999 400 ?_;simp;refine CI.p (zm5 x.split (fnD 339) (fun w=>decide (0<w.w)) (fun w _=>FnOk.of (qpi w) Tryz.call339 rfl rfl) (by omega)) Tryz.call266 9999 ?_;simp;first|exact fin0 (by simp[zmg]) rfl|exact zaa (by simp[zmg])
attribute [simp] Tryz.ntmps272 Tryz.results272
theorem qu2 (x:Rule)(hl:x.split.length≤4):Ct Tryz.prog 272 [st (zbk x)] [] [] (bool (zn7 x)) []:=by
 refine Ct.B Tryz.func272 mixed 9999 400 ?_;simp;refine CI.p (qi3 x.host) Tryz.call336 9999 ?_;simp;refine sGI (fun h1=>?_) (fun h1=>?_)<;>simp only[h1]<;>simp<;>(try simp only[nT,nF,dT,dF]at h1)
 ·refine CI.p (qho x.pre) Tryz.call337 9999 ?_;simp;refine sGI (fun h2=>?_) (fun h2=>?_)<;>simp only[h2]<;>simp<;>(try simp only[nT,nF,dT,dF]at h2)
  ·refine CI.p (zm5 x.split (fnD 338) (fun w=>!zda w.cluster) (fun w _=>FnOk.of (qxv w) Tryz.call338 rfl rfl) (by omega)) Tryz.call266 9999 ?_;simp;first|exact fin0 (by simp[zn7,h1,h2,List.all_eq_not_any_not]) rfl|exact zaa (by simp[zn7,h1,h2,List.all_eq_not_any_not])
  ·first|exact fin0 (by simp[zn7,h1,h2]) rfl|exact zaa (by simp[zn7,h1,h2])
 ·first|exact fin0 (by simp[zn7,h1]) rfl|exact zaa (by simp[zn7,h1])
attribute [simp] Tryz.ntmps271 Tryz.results271
theorem qo2 (x:Rule)(hl:x.split.length≤4):Ct Tryz.prog 271 [st (zbk x)] [] [] (bool (!zn7 x)) []:=by
 refine Ct.B Tryz.func271 mixed 9999 400 ?_;simp;refine CI.p (qu2 x hl) Tryz.call272 9999 ?_;simp;first|exact fin0 (by simp) rfl|exact zaa (by simp)
attribute [simp] Tryz.ntmps205 Tryz.results205
theorem qsc (r:Res)(hl:r.rules.length≤8∧∀x∈r.rules,x.split.length≤4):Ct Tryz.prog 205 [st (resC r)] [] [] (bool (zib r)) []:=by
 refine Ct.B Tryz.func205 mixed 9999 400 ?_;simp;refine CI.p (qv8 r.kind) Tryz.call269 9999 ?_;simp;refine sGI (fun h1=>?_) (fun h1=>?_)<;>simp only[h1]<;>simp<;>(try simp only[nT,nF,dT,dF]at h1)
 ·refine CI.p (zfw r.to) Tryz.call202 9999 ?_;simp;refine sBI (fun h2=>?_) (fun h2=>?_)<;>simp only[h2]<;>simp<;>(try simp only[nT,nF,dT,dF]at h2)
  ·first|exact fin0 (by simp[zib,h1,h2]) rfl|exact zaa (by simp[zib,h1,h2])
  refine CI.p (zux r.rules (fnD 271) (fun x=>!zn7 x) (fun x hx=>FnOk.of (qo2 x (hl.2 x hx)) Tryz.call271 rfl rfl) (by omega)) Tryz.call270 9999 ?_;simp;first|exact fin0 (by simp[zib,h1,h2,List.all_eq_not_any_not]) rfl|exact zaa (by simp[zib,h1,h2,List.all_eq_not_any_not])
 ·refine CI.p (zux r.rules (fnD 271) (fun x=>!zn7 x) (fun x hx=>FnOk.of (qo2 x (hl.2 x hx)) Tryz.call271 rfl rfl) (by omega)) Tryz.call270 9999 ?_;simp;first|exact fin0 (by simp[zib,h1,List.all_eq_not_any_not]) rfl|exact zaa (by simp[zib,h1,List.all_eq_not_any_not])
attribute [simp] Tryz.ntmps273 Tryz.results273
theorem qqo (x y:Rule):Ct Tryz.prog 273 [st (zbk y),.d (.pro (zbk x))] [] [] (bool (zq2 x y)) []:=by
 refine Ct.B Tryz.func273 mixed 9999 400 ?_;simp;refine sGI (fun h1=>?_) (fun h1=>?_)<;>simp only[h1]<;>simp<;>(try simp only[nT,nF,dT,dF]at h1)
 ·first|exact fin0 (by simp[zq2,h1]) rfl|exact zaa (by simp[zq2,h1])
 ·first|exact fin0 (by simp[zq2,h1]) rfl|exact zaa (by simp[zq2,h1])
attribute [simp] Tryz.ntmps340 Tryz.results340
theorem qsv (l:List Int)(v:Int)(hl:l.length≤9223372036854775807):Ct Tryz.prog 340 [lst (l.map intC),int v] [] [] (int (idxF (fun x=>decide (v=x)) l)) []:=by
 refine Ct.B Tryz.func340 mixed 9999 400 ?_;simp;refine LoopI.inv mixed rfl (ι:={k:Nat//k≤(l).length∧(l.take k).all (fun x=>!decide (v=x))=true}) (fun k=>[(0,lst (l.map intC)),(1,int v),(7,int l.length),(8,int k.1)]) (fun k=>[]) 64 (fun k=>(l).length-k.1) ⟨0,by omega,by simp⟩ [] (by constructor<;>simp) ?_;rintro⟨k,hk1,hi⟩ B hB;refine CI.run 9999 400 rfl ?_;simp;refine sBI (fun h=>?_) (fun h=>?_)
 ·have hk:k<(l).length:=by simpa using h
  obtain⟨r,hx,hr,hm,ht,hd⟩:=inL hk;have hw:=wr (k:=k) (by omega);simp only[h];simp[hr,hw];refine sBI (fun hp=>?_) (fun hp=>?_)<;>simp only[hp]<;>simp<;>(try simp only[nT,nF,dT,dF]at hp)
  ·first|exact fin0 (by simp[zc2 (p:=fun x=>decide (v=x)) hi hr (by simp[hp])]) rfl|exact zaa (by simp[zc2 (p:=fun x=>decide (v=x)) hi hr (by simp[hp])])
  ·refine hB _ ⟨k+1,by omega,by simp[ht,hi,hp]⟩ [] ?_ (by simp;omega);constructor<;>simp[hw,ht,hp]
 ·have hkl:k=(l).length:=by simp at h;omega
  subst hkl;simp only[h];simp[List.take_length,List.drop_length];rw[List.take_length]at hi;first|exact fin0 (by simp[zbi (p:=fun x=>decide (v=x)) (fun x hx=>by have:=List.all_eq_true.1 hi x hx;simpa using this)]) rfl|exact zaa (by simp[zbi (p:=fun x=>decide (v=x)) (fun x hx=>by have:=List.all_eq_true.1 hi x hx;simpa using this)])
attribute [simp] Tryz.ntmps275 Tryz.results275
theorem qs0 (l:List Int)(v:Int)(hl:l.length≤9223372036854775807):Ct Tryz.prog 275 [lst (l.map intC),int v] [] [] (bool (l.any fun x=>decide (v=x))) []:=by
 refine Ct.B Tryz.func275 mixed 9999 400 ?_;simp;refine CI.p (qsv l v hl) Tryz.call340 9999 ?_;simp;rw[zgp];first|exact fin0 (by simp) rfl|exact zaa (by simp)
attribute [simp] Tryz.ntmps206 Tryz.results206
theorem qlb (r:Res)(hl:r.rules.length≤8∧r.hosts.length≤8∧∀x∈r.rules,x.split.length≤4):Ct Tryz.prog 206 [st (resC r)] [] [] (bool (zf0 r)) []:=by
 refine Ct.B Tryz.func206 mixed 9999 400 ?_;simp;obtain⟨hl1,hl2,hl3⟩:=hl;refine LoopI.inv mixed rfl (ι:={k:Nat//k≤(r.rules).length∧((r.rules.take k).all zmg=true∧zhq zq2 (r.rules.take k) (r.rules.drop k)=zhq zq2 [] r.rules)}) (fun k=>[(1,.ptr 64 0),(9,lst (r.rules.map zbk)),(10,int r.rules.length),(11,int k.1)]) (fun k=>[(64,.cells ((resC r).map .d) 67)]) 65 (fun k=>(r.rules).length-k.1) ⟨0,by omega,by simp⟩ [] (by constructor<;>simp) ?_;rintro⟨k,hk1,hi⟩ B hB;refine CI.run 5 400 rfl ?_;simp;refine sBI (fun h=>?_) (fun h=>?_)
 ·have hk:k<(r.rules).length:=by simpa using h
  obtain⟨x,hx,hr,hm,ht,hd⟩:=inL hk;have hw:=wr (k:=k) (by omega);simp only[h];simp[hr,hw];refine CI.s (tm:=[(1,.ptr 64 0),(9,lst (r.rules.map zbk)),(10,int r.rules.length),(11,int k),(3,int k),(4,.d (.pro (zbk x))),(5,.d (.fn (.func 273) [] [.pro (zbk x)]))]) (mm:=[(64,.cells ((resC r).map .d) 67)]) (nx:=65) [] [321] (by constructor<;>simp) ?_;obtain⟨hi1,hi2⟩:=hi;rw[hd,zhq]at hi2;refine CI.run 9999 400 rfl ?_;simp;refine CI.p (qkq x (hl3 x hm)) Tryz.call274 9999 ?_;simp;refine sGI (fun h1=>?_) (fun h1=>?_)<;>simp only[h1]<;>simp<;>(try simp only[nT,nF,dT,dF]at h1)
  ·have e:r.rules.all zmg=false:=by
    rw[List.all_eq_false];exact⟨x,hm,by simp[h1]⟩
   first|exact fin0 (by simp[zf0,e]) rfl|exact zaa (by simp[zf0,e])
  refine⟨by omega,?_⟩;refine CI.p (zux (r.rules.take k) (.fn (.func 273) [] [.pro (zbk x)]) (zq2 x) (fun y _=>FnOk.clo (qqo x y) Tryz.call273 rfl rfl) (by simp;omega)) Tryz.call270 9999 ?_;simp;refine sBI (fun h2=>?_) (fun h2=>?_)<;>simp only[h2]<;>simp<;>(try simp only[nT,nF,dT,dF]at h2)
  ·have e:zhq zq2 [] r.rules=false:=by rw[←hi2,h2];rfl
   first|exact fin0 (by simp[zf0,e]) rfl|exact zaa (by simp[zf0,e])
  ·refine hB _ ⟨k+1,by omega,by simp[ht,hi1,h1],by rw[ht,←hi2,h2];rfl⟩ [] ?_ (by simp;omega);constructor<;>simp[hw]
 ·have hkl:k=(r.rules).length:=by simp at h;omega
  subst hkl;simp only[h];simp[List.take_length,List.drop_length];rw[List.take_length,List.drop_length]at hi;obtain⟨hi1,hi2⟩:=hi;simp only[zhq]at hi2;refine LoopI.inv mixed rfl (ι:={k:Nat//k≤(r.hosts).length∧(zhq (fun a b:Int=>decide (a=b)) (r.hosts.take k) (r.hosts.drop k)=zhq (fun a b=>decide (a=b)) [] r.hosts)}) (fun k=>[(1,.ptr 64 0),(30,lst (r.hosts.map intC)),(31,int r.hosts.length),(32,int k.1)]) (fun k=>[(64,.cells ((resC r).map .d) 67)]) 65 (fun k=>(r.hosts).length-k.1) ⟨0,by omega,by simp⟩ [] (by constructor<;>simp) ?_;rintro⟨k,hk1,hi⟩ B hB;refine CI.run 9999 400 rfl ?_;simp;refine sBI (fun h=>?_) (fun h=>?_)
  ·have hk:k<(r.hosts).length:=by simpa using h
   obtain⟨y,hx,hr,hm,ht,hd⟩:=inL hk;have hw:=wr (k:=k) (by omega);simp only[h];simp[hr,hw];rw[hd,zhq]at hi;refine⟨by omega,?_⟩;refine CI.p (qs0 (r.hosts.take k) y (by simp;omega)) Tryz.call275 9999 ?_;simp;refine sBI (fun h2=>?_) (fun h2=>?_)<;>simp only[h2]<;>simp<;>(try simp only[nT,nF,dT,dF]at h2)
   ·have e:zhq (fun a b:Int=>decide (a=b)) [] r.hosts=false:=by rw[←hi,h2];rfl
    first|exact fin0 (by simp[zf0,e]) rfl|exact zaa (by simp[zf0,e])
   ·refine hB _ ⟨k+1,by omega,by rw[ht,←hi,h2];rfl⟩ [] ?_ (by simp;omega);constructor<;>simp[hw]
  ·have hkl:k=(r.hosts).length:=by simp at h;omega
   subst hkl;simp only[h];simp[List.take_length,List.drop_length];rw[List.take_length,List.drop_length]at hi;simp only[zhq]at hi;first|exact fin0 (by simp[zf0,hi1,←hi2,←hi]) rfl|exact zaa (by simp[zf0,hi1,←hi2,←hi])
end Go.Proofs.YtjoaclgkjhncjaaGreatDoor
namespace Go.Proofs.YtjoaclgkjhncjaaGreatDoor
open Go.AI Go.G
set_option maxRecDepth 20000
theorem znc {r:Res}(h:zco r=true):r.rules.length≤8∧r.hosts.length≤8∧∀x∈r.rules,x.split.length≤4:=by
 simp only[zco,Bool.and_eq_true,decide_eq_true_eq,List.all_eq_true,zh8]at h;exact⟨h.1.1.1.2,h.1.1.2,fun x hx=>(h.2 x hx).1⟩
attribute [simp] Tryz.ntmps135 Tryz.results135
theorem znf (r:Res):Ct Tryz.prog 135 [st (resC r)] [] [] (int (zbd r)) []:=by
 refine Ct.B Tryz.func135 mixed 9999 400 ?_;simp;refine CI.p (zu6 r.kind 3) Tryz.call201 9999 ?_;simp;refine sBI (fun h1=>?_) (fun h1=>?_)<;>simp only[h1]<;>simp<;>(try simp only[nT,nF,dT,dF]at h1)
 ·first|exact fin0 (by simp[zbd,h1]) rfl|exact zaa (by simp[zbd,h1])
 refine CI.p (zfw r.name) Tryz.call202 9999 ?_;simp;refine sBI (fun h2=>?_) (fun h2=>?_)<;>simp only[h2]<;>simp<;>(try simp only[nT,nF,dT,dF]at h2)
 ·first|exact fin0 (by simp[zbd,h1,h2]) rfl|exact zaa (by simp[zbd,h1,h2])
 refine CI.p (qqm r) Tryz.call203 9999 ?_;simp;refine sBI (fun h3=>?_) (fun h3=>?_)<;>simp only[h3]<;>simp<;>(try simp only[nT,nF,dT,dF]at h3)
 ·first|exact fin0 (by simp[zbd,h1,h2,h3]) rfl|exact zaa (by simp[zbd,h1,h2,h3])
 have hb:=znc h3;refine CI.p (qld r) Tryz.call204 9999 ?_;simp;refine sBI (fun h4=>?_) (fun h4=>?_)<;>simp only[h4]<;>simp<;>(try simp only[nT,nF,dT,dF]at h4)
 ·first|exact fin0 (by simp[zbd,h1,h2,h3,h4]) rfl|exact zaa (by simp[zbd,h1,h2,h3,h4])
 refine CI.p (qsc r ⟨hb.1,hb.2.2⟩) Tryz.call205 9999 ?_;simp;refine sBI (fun h5=>?_) (fun h5=>?_)<;>simp only[h5]<;>simp<;>(try simp only[nT,nF,dT,dF]at h5)
 ·first|exact fin0 (by simp[zbd,h1,h2,h3,h4,h5]) rfl|exact zaa (by simp[zbd,h1,h2,h3,h4,h5])
 refine CI.p (qlb r hb) Tryz.call206 9999 ?_;simp;refine sBI (fun h6=>?_) (fun h6=>?_)<;>simp only[h6]<;>simp<;>(try simp only[nT,nF,dT,dF]at h6)
 ·first|exact fin0 (by simp[zbd,h1,h2,h3,h4,h5,h6]) rfl|exact zaa (by simp[zbd,h1,h2,h3,h4,h5,h6])
 ·first|exact fin0 (by simp[zbd,h1,h2,h3,h4,h5,h6]) rfl|exact zaa (by simp[zbd,h1,h2,h3,h4,h5,h6])
theorem rng_yes {n m:Int}:rngB n m=true↔0≤n∧n≤m:=by simp[rngB]
def sumW (l:List Weight):Int:=(l.map (·.w)).sum
@[simp] theorem sumW_nil :sumW []=0:=rfl
end Go.Proofs.YtjoaclgkjhncjaaGreatDoor
