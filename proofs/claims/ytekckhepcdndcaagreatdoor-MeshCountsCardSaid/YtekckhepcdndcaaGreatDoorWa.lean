/-
  LAYERS 1 to 3: the walks of names, hosts, paths, and of what is wrong with a resource, of the program and of the reference.
-/
import Derived.Test.YtekckhepcdndcaaGreatDoorTy
import Derived.Test.YtekckhepcdndcaaGreatDoorPl
import Derived.Test.YtekckhepcdndcaaGreatDoorFc
import Derived.Test.YtekckhepcdndcaaGreatDoorFd
set_option linter.unusedSimpArgs false
set_option linter.unusedVariables false
namespace Go.Proofs.YtekckhepcdndcaaGreatDoor
open Go.AI Go.G
theorem mixed :Tryz.prog.follows .mixedOrders=true:=by kernel_rfl
theorem qti (a b:Str):Ct Tryz.prog 377 [str a,str b] [] [] (int (cmpS a b)) []:=Ct.pure (xs:=[.string a,.string b]) (fun w=>Tryz.strings_Compare a b w)
attribute [simp] Tryz.ntmps342 Tryz.results342
theorem qxg (a b:Str):Ct Tryz.prog 342 [str a,str b] [] [] (int (cmpS a b)) []:=by
 refine Ct.B Tryz.func342 mixed 9999 400 ?_;simp;refine CI.p (qti a b) Tryz.call377 9999 ?_;simp;first|exact fin0 (by simp) rfl|exact zaa (by simp)
attribute [simp] Tryz.ntmps172 Tryz.results172
theorem lowP (c:Int):Ct Tryz.prog 172 [.d (.v (.int .i32 c))] [] [] (bool (lowI c)) []:=by
 refine Ct.B Tryz.func172 mixed 9999 400 ?_;simp
 repeat' first
  | (refine sGI (fun h=>?_) (fun h=>?_)<;>simp only[h]<;>simp[h])
  | (refine sBI (fun h=>?_) (fun h=>?_)<;>simp only[h]<;>simp[h])
  | (refine⟨(show za5 _ _ from by decide+kernel),?_⟩)
  |fail
 all_goals exact fin0 (by simp[*,lowI]) rfl
attribute [simp] Tryz.ntmps171 Tryz.results171
theorem zz9 (c:Int):Ct Tryz.prog 171 [.d (.v (.int .i32 c))] [] [] (bool (zu8 c)) []:=by
 refine Ct.B Tryz.func171 mixed 9999 400 ?_;simp;refine CI.p (lowP c) Tryz.call172 9999 ?_;simp
 repeat' first
  | (refine sGI (fun h=>?_) (fun h=>?_)<;>simp only[h]<;>simp[h])
  | (refine sBI (fun h=>?_) (fun h=>?_)<;>simp only[h]<;>simp[h])
  | (refine⟨(show za5 _ _ from by decide+kernel),?_⟩)
  |fail
 all_goals exact fin0 (by simp[*,zu8]) rfl
attribute [simp] Tryz.ntmps338 Tryz.results338
theorem zpo (s p:Str):Ct Tryz.prog 338 [str s,str p] [] [] (bool (decide ((bs p).length≤(bs s).length)&&decide ((bs s).take (bs p).length=bs p))) []:=by
 refine Ct.B Tryz.func338 mixed 9999 400 ?_;simp;have hs:=zbh s;have hp:=zbh p;refine sGI (fun h1=>?_) (fun h1=>?_)<;>simp only[h1]<;>simp[hs,hp]
 ·have h1':(bs p).length≤(bs s).length:=by have:=of_decide_eq_true h1;omega
  refine⟨by omega,?_⟩;first|exact fin0 (by simp[h1',zuf,zef]) rfl|exact zaa (by simp[h1',zuf,zef])
 ·have h1':¬(bs p).length≤(bs s).length:=by have:=of_decide_eq_false h1;omega
  first|exact fin0 (by simp[h1']) rfl|exact zaa (by simp[h1'])
attribute [simp] Tryz.ntmps128 Tryz.results128
theorem zfc (s:Str):Ct Tryz.prog 128 [str s] [] [] (bool (zcy s)) []:=by
 refine Ct.B Tryz.func128 mixed 9999 400 ?_;simp;have hsz:=zbh s;refine sBI (fun h1=>?_) (fun h1=>?_)<;>simp only[h1]<;>simp[hsz]
 ·have hz:¬((bs s).length≤12):=by have:=of_decide_eq_true h1;omega
  first|exact fin0 (by simp[zcy,zgk,hz]) rfl|exact zaa (by simp[zcy,zgk,hz])
 have hz:(bs s).length≤12:=by have:=of_decide_eq_false h1;omega
 refine LoopI.inv mixed rfl (ι:={k:Nat//k≤(bs s).length∧((bs s).take k).all znm=true∧(1≤k→lowB ((bs s).headD 0)=true)}) (fun k=>[(0,str s),(9,.own 64)]) (fun k=>[(64,.iter s k.1)]) 65 (fun k=>(bs s).length-k.1) ⟨0,by omega,by simp,by omega⟩ [] (by constructor<;>simp) ?_;rintro⟨k,hk1,hi,hl⟩ B hB;by_cases hk:k<(bs s).length
 ·have hr:(bs s)[k]? =some (bs s)[k]:=List.getElem?_eq_getElem hk;have hm:(bs s)[k]∈(bs s):=List.getElem_mem hk;have ht:(bs s).take (k+1)=(bs s).take k++[(bs s)[k]]:=by rw[List.take_add_one,hr];rfl
  have h0:k=0→(bs s).headD 0=(bs s)[k]:=by
   intro e;simp only[e,List.headD_eq_head?_getD,List.head?_eq_getElem?];rw[List.getElem?_eq_getElem (by omega)];rfl
  generalize(bs s)[k]=c at hr hm ht h0;by_cases hc:c.toNat<128
  ·refine CI.run 9999 400 rfl ?_;simp[hsz,hk,zwo hr hc];refine CI.p (zz9 c.toNat) Tryz.call171 9999 ?_;simp;refine sGI (fun h2=>?_) (fun h2=>?_)<;>simp only[h2]<;>simp
   ·have h2':(bs s).all znm=false:=by
     rw[List.all_eq_false];exact⟨c,hm,by simpa using h2⟩
    first|exact fin0 (by simp[zcy,zgk,h2']) rfl|exact zaa (by simp[zcy,zgk,h2'])
   have h2':znm c=true:=by simpa using h2
   refine sGI (fun h3=>?_) (fun h3=>?_)<;>simp only[h3]<;>simp
   ·have hk0:k=0:=by have:=of_decide_eq_true h3;omega
    refine CI.p (lowP c.toNat) Tryz.call172 9999 ?_;simp;refine sBI (fun h4=>?_) (fun h4=>?_)<;>simp only[h4]<;>simp
    ·have h4':lowB c=false:=by simpa using h4
     have h5:(bs s).head?.getD 0=c:=by rw[←List.headD_eq_head?_getD];exact h0 hk0
     first|exact fin0 (by simp[zcy,zgk,h5,h4']) rfl|exact zaa (by simp[zcy,zgk,h5,h4'])
    ·have h4':lowB c=true:=by simpa using h4
     refine hB _ ⟨k+1,by omega,by simp[ht,hi,h2'],fun _=>by rw[h0 hk0];exact h4'⟩ [] ?_ (by simp;omega);constructor<;>simp
   ·have hk0:1≤k:=by have:=of_decide_eq_false h3;omega
    refine hB _ ⟨k+1,by omega,by simp[ht,hi,h2'],fun _=>hl hk0⟩ [] ?_ (by simp;omega);constructor<;>simp
  ·have hu:=zwp hr (by omega);have hv:znm c=false:=by
    cases hv:znm c
    ·rfl
    ·exact absurd (qgh hv) hc
   have h2':(bs s).all znm=false:=by
    rw[List.all_eq_false];exact⟨c,hm,by simp[hv]⟩
   refine CI.run 9999 400 rfl ?_;simp[hsz,hk];refine CI.p (zz9 (Utf8.decode s k).1) Tryz.call171 9999 ?_;simp;rw[zu7 hu];simp;first|exact fin0 (by simp[zcy,zgk,h2']) rfl|exact zaa (by simp[zcy,zgk,h2'])
 ·have hkl:k=(bs s).length:=by omega
  rw[hkl,List.take_length]at hi;refine CI.run 9999 400 rfl ?_;simp[hsz,hk,hkl];cases hb:bs s with
  |nil=>
   have e:s=⟨#[]⟩:=zru (by rw[hb];rfl);subst e;first|exact fin0 (by simp[zcy,zgk,hb]) rfl|exact zaa (by simp[zcy,zgk,hb])
  |cons a l=>
   have hne:¬s=⟨#[]⟩:=by
    intro e;subst e;cases hb
   have e:zcy s=true:=by
    have h5:=hl (by rw[hkl,hb];simp);have h6:1≤(bs s).length:=by rw[hb];simp
    simp only[zcy,zgk,hi,hz,h5,h6,decide_true,Bool.true_and]
   first|exact fin0 (by simp[e,hne]) rfl|exact zaa (by simp[e,hne])
attribute [simp] Tryz.ntmps282 Tryz.results282
theorem zrk (s p:Str):Ct Tryz.prog 282 [str s,str p] [] [] (bool (decide ((bs p).length≤(bs s).length)&&decide ((bs s).take (bs p).length=bs p))) []:=by
 refine Ct.B Tryz.func282 mixed 9999 400 ?_;simp;refine CI.p (zpo s p) Tryz.call338 9999 ?_;simp;first|exact fin0 (by simp) rfl|exact zaa (by simp)
def zr4 (s p:Str):Str:=if(decide ((bs p).length≤(bs s).length)&&decide ((bs s).take (bs p).length=bs p))=true then s.extract (bs p).length s.size else s
attribute [simp] Tryz.ntmps337 Tryz.results337
theorem qbv (s p:Str):Ct Tryz.prog 337 [str s,str p] [] [] (str (zr4 s p)) []:=by
 refine Ct.B Tryz.func337 mixed 9999 400 ?_;simp;have hs:=zbh s;have hp:=zbh p;refine CI.p (zpo s p) Tryz.call338 9999 ?_;simp;generalize hq:(decide ((bs p).length≤(bs s).length)&&decide ((bs s).take (bs p).length=bs p))=q;refine sBI (fun h1=>?_) (fun h1=>?_)<;>simp only[h1]<;>simp[hs,hp]
 ·have h1':(bs p).length≤(bs s).length:=by
   rw[h1,Bool.and_eq_true]at hq;exact of_decide_eq_true hq.1
  refine⟨by omega,?_⟩;first|exact fin0 (by simp[zr4,hq,h1,hs]) rfl|exact zaa (by simp[zr4,hq,h1,hs])
 ·first|exact fin0 (by simp[zr4,hq,h1]) rfl|exact zaa (by simp[zr4,hq,h1])
attribute [simp] Tryz.ntmps281 Tryz.results281
theorem zxj (s p:Str):Ct Tryz.prog 281 [str s,str p] [] [] (str (zr4 s p)) []:=by
 refine Ct.B Tryz.func281 mixed 9999 400 ?_;simp;refine CI.p (qbv s p) Tryz.call337 9999 ?_;simp;first|exact fin0 (by simp) rfl|exact zaa (by simp)
attribute [simp] Tryz.ntmps224 Tryz.results224
theorem qgg (s:Str):Ct Tryz.prog 224 [str s] [] [] (bool (zj4 s)) []:=by
 refine Ct.B Tryz.func224 mixed 9999 400 ?_;simp;have hsz:=zbh s;refine LoopI.inv mixed rfl (ι:={k:Nat//k≤(bs s).length∧((bs s).take k).all slB=true}) (fun k=>[(0,str s),(6,.own 64)]) (fun k=>[(64,.iter s k.1)]) 65 (fun k=>(bs s).length-k.1) ⟨0,by omega,by simp⟩ [] (by constructor<;>simp) ?_;rintro⟨k,hk1,hi⟩ B hB;by_cases hk:k<(bs s).length
 ·have hr:(bs s)[k]? =some (bs s)[k]:=List.getElem?_eq_getElem hk;have hm:(bs s)[k]∈(bs s):=List.getElem_mem hk;have ht:(bs s).take (k+1)=(bs s).take k++[(bs s)[k]]:=by rw[List.take_add_one,hr];rfl
  generalize(bs s)[k]=c at hr hm ht;by_cases hc:c.toNat<128
  ·refine CI.run 9999 400 rfl ?_;simp[hsz,hk,zwo hr hc];refine CI.p (zz9 c.toNat) Tryz.call171 9999 ?_;simp;refine sGI (fun h2=>?_) (fun h2=>?_)<;>simp only[h2]<;>simp
   ·refine sBI (fun h3=>?_) (fun h3=>?_)<;>simp only[h3]<;>simp
    ·have h2':(bs s).all slB=false:=by
      rw[List.all_eq_false];exact⟨c,hm,by simp[slB]at h2 h3⊢;exact⟨h2,by omega⟩⟩
     first|exact fin0 (by simp[zj4,h2']) rfl|exact zaa (by simp[zj4,h2'])
    ·have h2':slB c=true:=by simp[slB]at h2 h3⊢;exact .inr (by omega)
     refine hB _ ⟨k+1,by omega,by simp[ht,hi,h2']⟩ [] ?_ (by simp;omega);constructor<;>simp
   ·have h2':slB c=true:=by simp[slB]at h2⊢;exact .inl h2
    refine hB _ ⟨k+1,by omega,by simp[ht,hi,h2']⟩ [] ?_ (by simp;omega);constructor<;>simp
  ·have hu:=zwp hr (by omega);have hv:slB c=false:=by
    cases hv:znm c
    ·simp[slB,hv];omega
    ·exact absurd (qgh hv) hc
   have h2':(bs s).all slB=false:=by
    rw[List.all_eq_false];exact⟨c,hm,by simp[hv]⟩
   have hn:¬((Utf8.decode s k).1:Int)=47:=by omega
   refine CI.run 9999 400 rfl ?_;simp[hsz,hk];refine CI.p (zz9 (Utf8.decode s k).1) Tryz.call171 9999 ?_;simp;rw[zu7 hu];simp[hn];first|exact fin0 (by simp[zj4,h2']) rfl|exact zaa (by simp[zj4,h2'])
 ·have hkl:k=(bs s).length:=by omega
  rw[hkl,List.take_length]at hi;refine CI.run 9999 400 rfl ?_;simp[hsz,hk,hkl];refine sGI (fun h1=>?_) (fun h1=>?_)<;>simp only[h1]<;>simp
  ·refine CI.p (zrk s ⟨#[47]⟩) Tryz.call282 9999 ?_;simp;have hz:(bs s).length≤40:=by have:=of_decide_eq_true h1;omega
   have e:zj4 s=(decide ((bs ⟨#[47]⟩).length≤(bs s).length)&&decide ((bs s).take (bs ⟨#[47]⟩).length=bs ⟨#[47]⟩)):=by
    rw[show bs ⟨#[47]⟩=[47]from rfl];simp only[zj4,hi,hz];cases hb:bs s with
    |nil=>rfl
    |cons a l=>simp[←UInt8.toNat_inj]
   first|exact fin0 (by simp[e]) rfl|exact zaa (by simp[e])
  ·have hz:¬((bs s).length≤40):=by have:=of_decide_eq_false h1;omega
   first|exact fin0 (by simp[zj4,hz]) rfl|exact zaa (by simp[zj4,hz])
end Go.Proofs.YtekckhepcdndcaaGreatDoor
section
open Go.RowKit Go.Shelf
namespace Go.Proofs.YtekckhepcdndcaaGreatDoor
open Go.AI Go.G
attribute [local go_sem] Oper.semAt_some
theorem qb7 (s p:Str)(n:Int)(w:World):Calls Tryz.prog 375 #[.string s,.string p,.int .i64 n] w fun e w'=>e=.returned (.func (.func 399) #[] #[.pointer (some ⟨w.heap.size+1,0,none⟩),.pointer (some ⟨w.heap.size,0,none⟩),.pointer (some ⟨w.heap.size+2,0,none⟩)])∧w'=((w.alloc (.cells #[.string s] 9)).alloc (.cells #[.string p] 9)).alloc (.cells #[.int .i64 n] 3):=by
 go_enter Tryz.func375,Tryz.ntmps375
 go_wp2
 go_ret
 exact⟨rfl,rfl⟩
theorem qdw (s p:Str)(w:World):Calls Tryz.prog 336 #[.string s,.string p] w fun e w'=>e=.returned (.func (.func 399) #[] #[.pointer (some ⟨w.heap.size+1,0,none⟩),.pointer (some ⟨w.heap.size,0,none⟩),.pointer (some ⟨w.heap.size+2,0,none⟩)])∧w'=((w.alloc (.cells #[.string s] 9)).alloc (.cells #[.string p] 9)).alloc (.cells #[.int .i64 0] 3):=by
 go_enter Tryz.func336,Tryz.ntmps336
 go_wp2_with (go_at_call 375;refine(qb7 _ _ _ _).mono ?_;rintro e w' ⟨rfl,rfl⟩)
 go_ret
 exact⟨rfl,rfl⟩
structure NmAt (w:World)(rest:Str)(lp:Loop)(W:World):Prop where
 b0:W.heap[w.heap.size]? =some (.cells #[.bool false] 4 (0,0))
 b1:W.heap[w.heap.size+1]? =some (.cells #[.string rest] 9 (0,0))
 b2:W.heap[w.heap.size+2]? =some (.cells #[.string ⟨#[46]⟩] 9 (0,0))
 b3:W.heap[w.heap.size+3]? =some (.cells #[.int .i64 0] 3 (0,0))
 b4:W.heap[w.heap.size+4]? =some (.deferred (some []))
 b5:W.heap[w.heap.size+5]? =some (.loop lp)
 below:Below w.heap.size w W
 dr:w.drawn≤W.drawn
theorem zc8 {W:World}{B:Nat}{v:Value}{t:TypeId}(h:W.heap[B]? =some (.cells #[v] t (0,0))):W.cell? ⟨B,0,none⟩=some v∧W.frozen? ⟨B,0,none⟩=false:=by
 constructor<;>simp[World.cell?,World.frozen?,h]
theorem ztr {W:World}{B:Nat}{v:Value}{t:TypeId}(h:W.heap[B]? =some (.cells #[v] t (0,0)))(x:Value):(W.setCell ⟨B,0,none⟩ x).heap[B]? =some (.cells #[x] t (0,0)):=by
 obtain⟨hlt,hk⟩:=Array.getElem?_eq_some_iff.1 h;show(W.heap.modify B _)[B]? =_;rw[Array.getElem?_eq_getElem (by rw[Array.size_modify];exact hlt),Array.getElem_modify_self,hk];rfl
theorem zco {W:World}{B k:Nat}(x:Value)(h:k≠B):(W.setCell ⟨B,0,none⟩ x).heap[k]? =W.heap[k]? :=Below.heap_setCell W ⟨B,0,none⟩ x k h
section
variable {w W W' : World} {rest : Str} {lp : Loop}
theorem NmAt.lt (h:NmAt w rest lp W):w.heap.size+5<W.heap.size:=(Array.getElem?_eq_some_iff.1 h.b5).1
theorem NmAt.grow (h:NmAt w rest lp W)(hb:Below W.heap.size W W')(hd:W.drawn≤W'.drawn):NmAt w rest lp W':=by
 have:=h.lt;exact⟨(hb.block _ (by omega)).trans h.b0,(hb.block _ (by omega)).trans h.b1,(hb.block _ (by omega)).trans h.b2,(hb.block _ (by omega)).trans h.b3,(hb.block _ (by omega)).trans h.b4,(hb.block _ (by omega)).trans h.b5,h.below.trans (hb.mono h.below.size),Nat.le_trans h.dr hd⟩
theorem NmAt.set1 (h:NmAt w rest lp W)(r:Str):NmAt w r lp (W.setCell ⟨w.heap.size+1,0,none⟩ (.string r)):=
 ⟨(zco _ (by omega)).trans h.b0,ztr h.b1 _,(zco _ (by omega)).trans h.b2,(zco _ (by omega)).trans h.b3,(zco _ (by omega)).trans h.b4,(zco _ (by omega)).trans h.b5,h.below.setCell (p:=⟨w.heap.size+1,0,none⟩) (by simp) _,h.dr⟩
theorem NmAt.set0 (h:NmAt w rest lp W):NmAt w rest lp (W.setCell ⟨w.heap.size,0,none⟩ (.bool false)):=
 ⟨ztr h.b0 _,(zco _ (by omega)).trans h.b1,(zco _ (by omega)).trans h.b2,(zco _ (by omega)).trans h.b3,(zco _ (by omega)).trans h.b4,(zco _ (by omega)).trans h.b5,h.below.setCell (p:=⟨w.heap.size,0,none⟩) (by simp) _,h.dr⟩
theorem Below.put {B l:Nat}{w W:World}(h:Below B w W)(o:Obj)(hl:B≤l):Below B w (W.putObj l o):=
 ⟨h.os,h.tape,h.output,by simpa using h.size,fun k hk=>(World.putObj_heap_other (by omega)).trans (h.block k hk)⟩
theorem NmAt.put (h:NmAt w rest lp W)(lq:Loop):NmAt w rest lq (W.putObj (w.heap.size+5) (.loop lq)):=
 ⟨(World.putObj_heap_other (by omega)).trans h.b0,(World.putObj_heap_other (by omega)).trans h.b1,(World.putObj_heap_other (by omega)).trans h.b2,(World.putObj_heap_other (by omega)).trans h.b3,(World.putObj_heap_other (by omega)).trans h.b4,World.putObj_heap_same h.lt,Below.put h.below _ (by omega),h.dr⟩
end
end Go.Proofs.YtekckhepcdndcaaGreatDoor
end
section
namespace Go.G
open Go.AI
theorem zm7 :∀(l p:List UInt8) (i:Int),Lib.indexByte l 46=i→(i<0→zc9 p l=zgk (p++l))∧(0≤i→zc9 p l=(zgk (p++l.take i.toNat)&&zc9 [] (l.drop (i.toNat+1))))
 |[],p,i,h=>by
  simp[Lib.indexByte]at h;subst h;simp[zc9]
 |c::l,p,i,h=>by
  simp only[Lib.indexByte]at h;by_cases hc:c=46
  ·subst hc;simp at h;subst h;simp[zc9]
  ·have hc':(c==46)=false:=by simpa using hc
   have ih:=zm7 l (p++[c]) (Lib.indexByte l 46) rfl;have h1:=Lib.indexByte_ge l 46;simp only[hc']at h;by_cases h2:Lib.indexByte l 46<0
   ·have e:Lib.indexByte l 46= -1:=by omega
    rw[e]at h;have:i= -1:=by simpa using h.symm
    subst this;exact⟨fun _=>by rw[zc9,if_neg hc,ih.1 h2];simp,fun h=>by omega⟩
   ·obtain⟨k,hk⟩:∃k:Nat,Lib.indexByte l 46=k:=⟨(Lib.indexByte l 46).toNat,by omega⟩;rw[hk]at h ih;have e:i=((k+1:Nat):Int):=by
     have:¬(k:Int)<0:=by omega
     simp[this]at h;omega
    subst e;refine⟨fun h=>by omega,fun _=>?_⟩;rw[zc9,if_neg hc,ih.2 (by omega)];simp
end Go.G
open Go.RowKit Go.Shelf
namespace Go.Proofs.YtekckhepcdndcaaGreatDoor
open Go.AI Go.G
attribute [local go_sem] Oper.semAt_some
theorem ztt {σ σ':Names}{I I':Nat→Prop}{w w':World}{nm:Nat}{m':Mem}(hp:Post σ I w (zac []) nm σ' I' w' m'):Below w.heap.size w w':=
 ⟨hp.os,hp.tape,hp.output.eq,hp.size,fun k hk=>hp.frame k hk (by rintro⟨b,_,_,hb,_⟩;simp[zac]at hb)⟩
theorem zrc (s:Str)(w:World):Calls Tryz.prog 128 #[.string s] w fun e w'=>e=.returned (.bool (zcy s))∧Below w.heap.size w w'∧w.drawn≤w'.drawn:=by
 refine(zfc s (fun _=>none) (fun n=>n<w.heap.size) w [.string s] (fun _ h=>h) rfl (fun i c x h1 h2=>?_) ⟨fun b k hb=>by simp[zac]at hb,fun b b' k k' x x' n hb=>by simp[zac]at hb⟩ (fun _ _=>rfl)).mono ?_
 ·match i with
  |0=>simp at h1 h2;subst h1;subst h2;exact .d (.v _)
  |i+1=>simp at h1
 ·rintro e w' ⟨v,σ',I',rfl,hp,hv⟩;cases hv with
  |d hd=>cases hd with
   |v=>exact⟨rfl,ztt hp,hp.output.drawn⟩
def qgv (H:Nat)(W:World):Nat:=match W.cell? ⟨H+1,0,none⟩with
 |some (.string s)=>s.size
 |_=>0
theorem zvm {w W:World}{rest:Str}{r:Loop}(h:NmAt w rest r W):qgv w.heap.size W=rest.size:=by
 simp[qgv,(zc8 h.b1).1]
def NmY (w:World)(rest:Str)(r:Loop)(x:Str)(e:Ending)(W':World):Prop:=(e=.returned (.bool true)∧zcy x=true∧NmAt w rest r W')∨(e=.returned (.bool false)∧zcy x=false∧∃q:Loop,q.state=.done∧q.pending=some .ret∧NmAt w rest q W')
abbrev qxm (w:World)(r:Loop)(t:Bool)(W:World):Prop:=(t=true∧∃rest,NmAt w rest r W)∨(t=false∧∃rest,∃q:Loop,q.state=.done∧q.pending=some .ret∧NmAt w rest q W)
set_option maxRecDepth 100000 in
set_option maxHeartbeats 2000000 in
theorem qut (m:Nat)(hm:1≤m)(w:World)(s:Str)(r:Loop)(hs:(bs s).length≤40)
  (hY:∀W rest x,NmAt w rest r W→YieldAt Fence.wide (m-1) Tryz.prog (w.heap.size+5) #[.string x] W (NmY w rest r x))
  (W:World) (h:NmAt w s r W):
  CallsIn Fence.wide m Tryz.prog 399 #[.func (.yield (w.heap.size+5)) #[] #[],.pointer (some ⟨w.heap.size+2,0,none⟩),.pointer (some ⟨w.heap.size+1,0,none⟩),.pointer (some ⟨w.heap.size+3,0,none⟩)] W fun e W'=>(∃v,e=.returned v)∧qxm w r (zc9 [] (bs s)) W':=by
 refine callsIn_of_wp Tryz.func399 rfl trivial ?_ rfl;simp only[Tryz.ntmps399,List.size_toArray,List.length_cons,List.length_nil,Nat.reduceAdd,Nat.reduceSub,Array.replicate_succ,Array.replicate_zero,List.push_toArray,List.append_toArray,List.nil_append,List.cons_append];have c2:=(zc8 h.b2).1
 gi_wp2
 gi_loopw [7] (fun _ wr=>∃rest,NmAt w rest r wr∧zc9 [] (bs rest)=zc9 [] (bs s)∧(bs rest).length≤40) (fun _ wr=>qgv w.heap.size wr)
 case atStart=>exact⟨s,h,rfl,hs⟩
 case round=>
  obtain⟨rest,hr,hg,hl⟩:=hrel;clear c2;have d1:=(zc8 hr.b1).1;have d2:=(zc8 hr.b2).1;have d3:=(zc8 hr.b3).1;have hsp:=zm7 (bs rest) [] _ rfl;have hge:=Lib.indexByte_ge (bs rest) 46;have hsz:=zbh rest;unfold bs at hsp hge;by_cases hi:Lib.indexByte rest.data.toList 46<0
  ·obtain⟨f1,t1,a1,b1,hy1,hR1⟩:=hY wr rest rest hr
   gi_wp2_with (refine⟨trivial,?_⟩;gi_at_call 401;refine(callsIn_wide.2 (Tryz.strings_Index_one rest 46 _)).mono ?_;rintro e w' ⟨rfl,rfl⟩)
   refine hR1.mono ?_;have e1:zc9 [] (bs s)=zcy rest:=by rw[←hg];exact hsp.1 hi
   rintro e W3 (⟨rfl,hn,h3⟩|⟨rfl,hn,q,hq1,hq2,hq⟩)
   ·gi_wp2
    go_end0
    exact⟨⟨_,rfl⟩,.inl ⟨e1.trans hn,rest,h3⟩⟩
   ·gi_wp2
    go_end0
    exact⟨⟨_,rfl⟩,.inr ⟨e1.trans hn,rest,q,hq1,hq2,hq⟩⟩
  ·obtain⟨k,hk⟩:∃k:Nat,Lib.indexByte rest.data.toList 46=k:=⟨(Lib.indexByte rest.data.toList 46).toNat,by omega⟩;have hkl:k<rest.size:=by
    rw[hsz];exact(List.getElem?_eq_some_iff.1 (Lib.indexByte_some hk).1).1
   have hidx:∀(j:Nat) (w:World),CallsIn Fence.wide j Tryz.prog 401 #[.string rest,.string ⟨#[46]⟩] w fun e w'=>e=.returned (.int .i64 k)∧w'=w:=by
    intro j w;rw[←hk];exact callsIn_wide.2 (Tryz.strings_Index_one rest 46 _)
   have H1:=hsp.2 (by omega);rw[hk]at H1;have H2:zc9 [] (bs s)=(zcy (rest.extract 0 k)&&zc9 [] (bs (rest.extract (k+1) rest.size))):=by
    rw[←hg];refine H1.trans ?_;rw[zef,zcy,zef,hsz,List.take_length];simp[bs]
   have H3:(bs (rest.extract (k+1) rest.size)).length≤40:=by rw[zef,hsz,List.take_length,List.length_drop];omega
   have H4:(rest.extract (k+1) rest.size).size<rest.size:=by simp;omega
   have H5:rest.size≤40:=by omega
   clear H1 hsp hge hsz hk hi;obtain⟨f1,t1,a1,b1,hy1,hR1⟩:=hY wr rest (rest.extract 0 k) hr
   gi_wp2_with (refine⟨trivial,?_⟩;gi_at_call 401;refine(hidx _ _).mono ?_;rintro e w' ⟨rfl,rfl⟩)
   refine hR1.mono ?_;clear d1 d2 d3;rintro e W3 (⟨rfl,hn,h3⟩|⟨rfl,hn,q,hq1,hq2,hq⟩)
   ·obtain⟨d1,d4⟩:=zc8 h3.b1;have d2:=(zc8 h3.b2).1
    gi_wp2
    go_roundw
    case rel=>exact⟨rest.extract (k+1) rest.size,h3.set1 _,by rw[H2,hn];rfl,H3⟩
    case measure=>rw[zvm (h3.set1 _),zvm hr];exact H4
   ·gi_wp2
    refine bodyPost_ret (results_none rfl _ _ _) rfl ?_;exact⟨⟨_,rfl⟩,.inr ⟨by rw[H2,hn];rfl,rest,q,hq1,hq2,hq⟩⟩
set_option maxRecDepth 100000 in
set_option maxHeartbeats 2000000 in
theorem qq4 (s:Str)(hs:(bs s).length≤40)(w:World):Calls Tryz.prog 280 #[.string s] w fun e w'=>e=.returned (.bool (zc9 [] (bs s)))∧Below w.heap.size w w'∧w.drawn≤w'.drawn:=by
 refine(callsIn_wide (n:=4)).1 ?_;refine callsIn_of_wp_marks Tryz.func280 rfl trivial ?_ rfl;simp only[Tryz.ntmps280,List.size_toArray,List.length_cons,List.length_nil,Nat.reduceAdd,Nat.reduceSub,Array.replicate_succ,Array.replicate_zero,List.push_toArray,List.append_toArray,List.nil_append,List.cons_append]
 gi_wp2_with (refine⟨trivial,?_⟩;gi_at_call 336;refine(callsIn_wide.2 (qdw _ _ _)).mono ?_;rintro e w' ⟨rfl,rfl⟩)
 obtain⟨W0,hW0⟩:∃W0,(((w.alloc (.cells #[.bool false] 4)).alloc (.cells #[.string s] 9)).alloc (.cells #[.string ⟨#[46]⟩] 9)).alloc (.cells #[.int .i64 0] 3)=W0:=⟨_,rfl⟩;have hs0:W0.heap.size=w.heap.size+4:=by rw[←hW0];simp
 have k0:W0.heap[w.heap.size]? =some (.cells #[.bool false] 4 (0,0)):=by
  rw[←hW0];exact(((Below.heap_alloc _ _ _ (by simp;omega)).trans (Below.heap_alloc _ _ _ (by simp;omega))).trans (Below.heap_alloc _ _ _ (by simp))).trans (World.alloc_heap_new w _)
 have k1:W0.heap[w.heap.size+1]? =some (.cells #[.string s] 9 (0,0)):=by
  rw[←hW0];refine((Below.heap_alloc _ _ _ (by simp)).trans (Below.heap_alloc _ _ _ (by simp))).trans ?_;have:=World.alloc_heap_new (w.alloc (.cells #[.bool false] 4)) (.cells #[.string s] 9);rwa[World.size_alloc]at this
 have k2:W0.heap[w.heap.size+2]? =some (.cells #[.string ⟨#[46]⟩] 9 (0,0)):=by
  rw[←hW0];refine(Below.heap_alloc _ _ _ (by simp)).trans ?_;have:=World.alloc_heap_new ((w.alloc (.cells #[.bool false] 4)).alloc (.cells #[.string s] 9)) (.cells #[.string ⟨#[46]⟩] 9);rwa[World.size_alloc,World.size_alloc]at this
 have k3:W0.heap[w.heap.size+3]? =some (.cells #[.int .i64 0] 3 (0,0)):=by
  rw[←hW0];have:=World.alloc_heap_new (((w.alloc (.cells #[.bool false] 4)).alloc (.cells #[.string s] 9)).alloc (.cells #[.string ⟨#[46]⟩] 9)) (.cells #[.int .i64 0] 3);rwa[World.size_alloc,World.size_alloc,World.size_alloc]at this
 have kb:Below w.heap.size w W0:=by
  rw[←hW0];exact((((Below.refl _ w).alloc (Nat.le_refl _) _).alloc (by simp) _).alloc (by simp;omega) _).alloc (by simp;omega) _
 have kd:w.drawn≤W0.drawn:=by rw[←hW0];exact Nat.le_refl _
 rw[hW0];clear hW0;refine zz1 rfl (by omega) rfl trivial (enters_of Tryz.func399 (by kernel_rfl) rfl) ?_;rintro fn hfn r hr;rw[hs0]at hr⊢;have k5:((W0.alloc (.deferred (some []))).alloc (.loop r)).heap[w.heap.size+5]? =some (.loop r):=by
  have:=World.alloc_heap_new (W0.alloc (.deferred (some []))) (.loop r);rwa[World.size_alloc,hs0]at this
 have hold:∀k,k<w.heap.size+4→((W0.alloc (.deferred (some []))).alloc (.loop r)).heap[k]? =W0.heap[k]? :=fun k hk=>
  (Below.heap_alloc _ _ k (by simp;omega)).trans (Below.heap_alloc _ _ k (by omega))
 have k4:((W0.alloc (.deferred (some []))).alloc (.loop r)).heap[w.heap.size+4]? =some (.deferred (some [])):=by
  refine(Below.heap_alloc _ _ _ (by simp;omega)).trans ?_;have:=World.alloc_heap_new W0 (.deferred (some []));rwa[hs0]at this
 have hN:NmAt w s r ((W0.alloc (.deferred (some []))).alloc (.loop r)):=
  ⟨(hold _ (by omega)).trans k0,(hold _ (by omega)).trans k1,(hold _ (by omega)).trans k2,(hold _ (by omega)).trans k3,k4,k5,(kb.alloc (by omega) _).alloc (by simp;omega) _,kd⟩
 have hY:∀W rest x,NmAt w rest r W→YieldAt Fence.wide (4-1-1) Tryz.prog (w.heap.size+5) #[.string x] W (NmY w rest r x):=by
  intro W rest x h;have hp:=h.put {r with state:=.busy};refine qka h.b5 (by rw[hr]) (by rw[hr];rfl) trivial {tmps:=#[.string s,undef,.pointer (some ⟨w.heap.size,0,none⟩),.string x,.string s,.func (.func 399) #[] #[.pointer (some ⟨w.heap.size+1+1,0,none⟩),.pointer (some ⟨w.heap.size+1,0,none⟩),.pointer (some ⟨w.heap.size+1+2,0,none⟩)],.string x,undef,undef,undef],defers:=[]} W h.b5 ?_ ?_
  ·intro K hK;rw[hr]
   gi_wp2
   exact hK
  ·generalize hWb:W.putObj (w.heap.size+5) (.loop {r with state:=.busy})=Wb at hp;have hbd:=congrArg Loop.body hr;have hrr:∀W3,NmAt w rest {r with state:=.busy} W3→NmAt w rest r (W3.putObj (w.heap.size+5) (.loop {{r with state:=.busy}with state:=if(none:Option Code).isNone then .ready else .done,pending:=none})):=fun W3 h3=>by
    have:=h3.put r;rw[hr]at this⊢;exact this
   dsimp only at hbd;rw[hbd];clear hbd hr hs0 k0 k1 k2 k3 k4 k5 kb hold hN hWb h;cases hv:zcy x with
   |true=>
    have hc:∀(j:Nat) (W:World),CallsIn (Fence.wide.inRound (w.heap.size+5)) j Tryz.prog 128 #[.string x] W fun e w'=>e=.returned (.bool true)∧Below W.heap.size W w'∧W.drawn≤w'.drawn:=fun j W=>by
     rw[←hv];exact CallsIn.inRound _ (callsIn_wide.2 (zrc x W))
    gi_wp2_with (refine⟨trivial,?_⟩;gi_at_call 128;refine(hc _ _).mono ?_;rintro e w' ⟨rfl,hB,hD⟩)
    exact⟨none,rfl,_,(hp.grow hB hD).b5,.inl ⟨rfl,hv,hrr _ (hp.grow hB hD)⟩⟩
   |false=>
    have hc:∀(j:Nat) (W:World),CallsIn (Fence.wide.inRound (w.heap.size+5)) j Tryz.prog 128 #[.string x] W fun e w'=>e=.returned (.bool false)∧Below W.heap.size W w'∧W.drawn≤w'.drawn:=fun j W=>by
     rw[←hv];exact CallsIn.inRound _ (callsIn_wide.2 (zrc x W))
    have hc2:∀(j:Nat),CallsIn (Fence.wide.inRound (w.heap.size+5)) j Tryz.prog 128 #[.string x] Wb fun e w'=>e=.returned (.bool false)∧NmAt w rest {r with state:=.busy} w'∧w'.cell? ⟨w.heap.size,0,none⟩=some (.bool false)∧w'.frozen? ⟨w.heap.size,0,none⟩=false:=fun j=>
     (hc j Wb).mono fun e w' ⟨h1,hB,hD⟩=>⟨h1,hp.grow hB hD,(zc8 (hp.grow hB hD).b0).1,(zc8 (hp.grow hB hD).b0).2⟩
    gi_wp2_with (refine⟨trivial,?_⟩;gi_at_call 128;refine(hc2 _).mono ?_;rintro e w' ⟨rfl,hB,hB2,hB3⟩)
    exact⟨some .ret,rfl,_,hB.set0.b5,.inr ⟨rfl,hv,_,rfl,rfl,hB.set0.put _⟩⟩
 refine(qut 3 (by omega) w s r hs hY _ hN).mono ?_;clear hY hN hold k0 k1 k2 k3 k4 k5 kb;rintro e W2 ⟨hv,hO⟩;refine⟨hv,?_⟩;have hend:∀(W3:World) (q:Loop) (rest:Str),NmAt w rest q W3→∀t:Bool,(Below w.heap.size w ((W3.setCell ⟨w.heap.size,0,none⟩ (.bool t)).putObj (w.heap.size+4) (.deferred none))∧w.drawn≤((W3.setCell ⟨w.heap.size,0,none⟩ (.bool t)).putObj (w.heap.size+4) (.deferred none)).drawn)∧((W3.setCell ⟨w.heap.size,0,none⟩ (.bool t)).putObj (w.heap.size+4) (.deferred none)).cell? ⟨w.heap.size,0,none⟩=some (.bool t)∧(W3.setCell ⟨w.heap.size,0,none⟩ (.bool t)).heap[w.heap.size+4]? =some (.deferred (some [])):=fun W3 q rest h t=>
  ⟨⟨Below.put (h.below.setCell (p:=⟨w.heap.size,0,none⟩) (by simp) _) _ (by omega),h.dr⟩,(World.cell?_of_block (World.putObj_heap_other (by show w.heap.size≠_;omega))).trans (zc8 (ztr h.b0 _)).1,(zco _ (by omega)).trans h.b4⟩
 rcases hO with⟨ht,rest,h⟩|⟨ht,rest,q,q1,q2,h⟩
 ·refine⟨r,h.b5,by rw[hr];simp,?_⟩;rw[show r.pending=none by rw[hr]];have hp:NmAt w rest {r with state:=.exhausted,pending:=none} (W2.putObj (w.heap.size+4+1) (.loop {r with state:=.exhausted,pending:=none})):=h.put _;generalize W2.putObj (w.heap.size+4+1) _=W3 at hp⊢;obtain⟨e1,e2⟩:=zc8 hp.b0;obtain⟨f1,f2,f3⟩:=hend W3 _ rest hp true;clear hp h hr hs0 hend
  gi_wp2
  refine⟨by simp,.inl ⟨_,_,rfl,run_takeDeferred f3,?_⟩⟩;exact⟨_,by simp[results,Tryz.f280,go_sem,f2];rfl,by rw[ht],f1⟩
 ·refine⟨q,h.b5,by rw[q1];simp,?_⟩;rw[q2];have hp:NmAt w rest {q with state:=.exhausted,pending:=some .ret} (W2.putObj (w.heap.size+4+1) (.loop {q with state:=.exhausted,pending:=some .ret})):=h.put _;generalize W2.putObj (w.heap.size+4+1) _=W3 at hp⊢;have f1:Below w.heap.size w (W3.putObj (w.heap.size+4) (.deferred none))∧w.drawn≤(W3.putObj (w.heap.size+4) (.deferred none)).drawn:=⟨Below.put hp.below (.deferred none) (l:=w.heap.size+4) (by omega),hp.dr⟩;have f2:(W3.putObj (w.heap.size+4) (.deferred none)).cell? ⟨w.heap.size,0,none⟩=some (.bool false):=(World.cell?_of_block (World.putObj_heap_other (by show w.heap.size≠_;omega))).trans (zc8 hp.b0).1;have f3:=hp.b4;clear hp h hr hs0 hend
  gi_wp2
  refine⟨by simp,.inl ⟨_,_,rfl,run_takeDeferred f3,?_⟩⟩;exact⟨_,by simp[results,Tryz.f280,go_sem,f2];rfl,by rw[ht],f1⟩
theorem qq2 (s:Str)(hl:(bs s).length≤40):Ct Tryz.prog 280 [str s] [] [] (bool (zc9 [] (bs s))) []:=Ct.grow (xs:=[.string s]) (fun w=>qq4 s hl w)
end Go.Proofs.YtekckhepcdndcaaGreatDoor
end
namespace Go.Proofs.YtekckhepcdndcaaGreatDoor
open Go.AI Go.G
attribute [simp] Tryz.ntmps223 Tryz.results223
theorem qhr (s:Str):Ct Tryz.prog 223 [str s] [] [] (bool (zml s)) []:=by
 refine Ct.B Tryz.func223 mixed 9999 400 ?_;simp;have hsz:=zbh s;refine sGI (fun h1=>?_) (fun h1=>?_)<;>simp only[h1]<;>simp[hsz]
 ·have hz:(bs s).length≤40:=by have:=of_decide_eq_true h1;omega
  refine sGI (fun h2=>?_) (fun h2=>?_)<;>simp only[h2]<;>simp
  ·have e:bs s=[42]:=by rw[of_decide_eq_true h2];rfl
   first|exact fin0 (by simp[zml,e]) rfl|exact zaa (by simp[zml,e])
  have e:¬bs s=[42]:=by
   intro e;exact of_decide_eq_false h2 (zru e)
  refine CI.p (zxj s ⟨#[42,46]⟩) Tryz.call281 9999 ?_;simp;have e2:bs (zr4 s ⟨#[42,46]⟩)=if zsa (bs s)then(bs s).drop 2 else bs s:=by
   unfold zr4 zsa;rw[show bs ⟨#[42,46]⟩=[42,46]from rfl];simp only[List.length_cons,List.length_nil];split
   ·rw[zef,hsz,List.take_length]
   ·rfl
  refine CI.p (qq2 (zr4 s ⟨#[42,46]⟩) (by rw[e2];split;rw[List.length_drop];omega;exact hz)) Tryz.call280 9999 ?_;simp;rw[e2];first|exact fin0 (by simp[←qas,qlu,hz,e]) rfl|exact zaa (by simp[←qas,qlu,hz,e])
 ·have hz:¬((bs s).length≤40):=by have:=of_decide_eq_false h1;omega
  first|exact fin0 (by simp[zml,hz]) rfl|exact zaa (by simp[zml,hz])
set_option maxRecDepth 20000
attribute [simp] Tryz.ntmps221 Tryz.results221
theorem qcx (l:List Weight)(kf:D)(p:Weight→Bool)(hf:∀x∈l,FnOk Tryz.prog (.d kf) [st (wC x)] (bool (p x)))(hl:l.length≤9223372036854775807):Ct Tryz.prog 221 [lst (l.map wC),.d kf] [] [] (int (idxF p l)) []:=by
 refine Ct.B Tryz.func221 mixed 9999 400 ?_;simp;refine LoopI.inv mixed rfl (ι:={k:Nat//k≤(l).length∧(l.take k).all (fun x=>!p x)=true}) (fun k=>[(0,lst (l.map wC)),(1,.d kf),(7,int l.length),(8,int k.1)]) (fun k=>[]) 64 (fun k=>(l).length-k.1) ⟨0,by omega,by simp⟩ [] (by constructor<;>simp) ?_;rintro⟨k,hk1,hi⟩ B hB;refine CI.run 9999 400 rfl ?_;simp;refine sBI (fun h=>?_) (fun h=>?_)
 ·have hk:k<(l).length:=by simpa using h
  obtain⟨r,hx,hr,hm,ht,hd⟩:=inL hk;have hw:=wr (k:=k) (by omega);simp only[h];simp[hr,hw];refine CI.ff (hf r hm) rfl rfl rfl 9999 ?_;simp;refine sBI (fun hp=>?_) (fun hp=>?_)<;>simp only[hp]<;>simp
  ·first|exact fin0 (by simp[zcr hi hr hp]) rfl|exact zaa (by simp[zcr hi hr hp])
  ·refine hB _ ⟨k+1,by omega,by simp[ht,hi,hp]⟩ [] ?_ (by simp;omega);constructor<;>simp[hw,ht,hp]
 ·have hkl:k=(l).length:=by simp at h;omega
  subst hkl;simp only[h];simp[List.take_length,List.drop_length];rw[List.take_length]at hi;first|exact fin0 (by simp[zbc (fun x hx=>by have:=List.all_eq_true.1 hi x hx;simpa using this)]) rfl|exact zaa (by simp[zbc (fun x hx=>by have:=List.all_eq_true.1 hi x hx;simpa using this)])
attribute [simp] Tryz.ntmps173 Tryz.results173
theorem zmr (l:List Weight)(kf:D)(p:Weight→Bool)(hf:∀x∈l,FnOk Tryz.prog (.d kf) [st (wC x)] (bool (p x)))(hl:l.length≤9223372036854775807):Ct Tryz.prog 173 [lst (l.map wC),.d kf] [] [] (bool (l.any p)) []:=by
 refine Ct.B Tryz.func173 mixed 9999 400 ?_;simp;refine CI.p (qcx l kf p hf hl) Tryz.call221 9999 ?_;simp;rw[zgb];first|exact fin0 (by simp) rfl|exact zaa (by simp)
attribute [simp] Tryz.ntmps222 Tryz.results222
theorem qlp (l:List Rule)(kf:D)(p:Rule→Bool)(hf:∀x∈l,FnOk Tryz.prog (.d kf) [st (zbn x)] (bool (p x)))(hl:l.length≤9223372036854775807):Ct Tryz.prog 222 [lst (l.map zbn),.d kf] [] [] (int (idxF p l)) []:=by
 refine Ct.B Tryz.func222 mixed 9999 400 ?_;simp;refine LoopI.inv mixed rfl (ι:={k:Nat//k≤(l).length∧(l.take k).all (fun x=>!p x)=true}) (fun k=>[(0,lst (l.map zbn)),(1,.d kf),(7,int l.length),(8,int k.1)]) (fun k=>[]) 64 (fun k=>(l).length-k.1) ⟨0,by omega,by simp⟩ [] (by constructor<;>simp) ?_;rintro⟨k,hk1,hi⟩ B hB;refine CI.run 9999 400 rfl ?_;simp;refine sBI (fun h=>?_) (fun h=>?_)
 ·have hk:k<(l).length:=by simpa using h
  obtain⟨r,hx,hr,hm,ht,hd⟩:=inL hk;have hw:=wr (k:=k) (by omega);simp only[h];simp[hr,hw];refine CI.ff (hf r hm) rfl rfl rfl 9999 ?_;simp;refine sBI (fun hp=>?_) (fun hp=>?_)<;>simp only[hp]<;>simp
  ·first|exact fin0 (by simp[zcr hi hr hp]) rfl|exact zaa (by simp[zcr hi hr hp])
  ·refine hB _ ⟨k+1,by omega,by simp[ht,hi,hp]⟩ [] ?_ (by simp;omega);constructor<;>simp[hw,ht,hp]
 ·have hkl:k=(l).length:=by simp at h;omega
  subst hkl;simp only[h];simp[List.take_length,List.drop_length];rw[List.take_length]at hi;first|exact fin0 (by simp[zbc (fun x hx=>by have:=List.all_eq_true.1 hi x hx;simpa using this)]) rfl|exact zaa (by simp[zbc (fun x hx=>by have:=List.all_eq_true.1 hi x hx;simpa using this)])
attribute [simp] Tryz.ntmps177 Tryz.results177
theorem ztw (l:List Rule)(kf:D)(p:Rule→Bool)(hf:∀x∈l,FnOk Tryz.prog (.d kf) [st (zbn x)] (bool (p x)))(hl:l.length≤9223372036854775807):Ct Tryz.prog 177 [lst (l.map zbn),.d kf] [] [] (bool (l.any p)) []:=by
 refine Ct.B Tryz.func177 mixed 9999 400 ?_;simp;refine CI.p (qlp l kf p hf hl) Tryz.call222 9999 ?_;simp;rw[zgb];first|exact fin0 (by simp) rfl|exact zaa (by simp)
attribute [simp] Tryz.ntmps141 Tryz.results141
theorem ztb (l:List Res)(kf:D)(p:Res→Bool)(hf:∀x∈l,FnOk Tryz.prog (.d kf) [st (resC x)] (bool (p x)))(hl:l.length≤9223372036854775807):Ct Tryz.prog 141 [lst (l.map resC),.d kf] [] [] (int (idxF p l)) []:=by
 refine Ct.B Tryz.func141 mixed 9999 400 ?_;simp;refine LoopI.inv mixed rfl (ι:={k:Nat//k≤(l).length∧(l.take k).all (fun x=>!p x)=true}) (fun k=>[(0,lst (l.map resC)),(1,.d kf),(7,int l.length),(8,int k.1)]) (fun k=>[]) 64 (fun k=>(l).length-k.1) ⟨0,by omega,by simp⟩ [] (by constructor<;>simp) ?_;rintro⟨k,hk1,hi⟩ B hB;refine CI.run 9999 400 rfl ?_;simp;refine sBI (fun h=>?_) (fun h=>?_)
 ·have hk:k<(l).length:=by simpa using h
  obtain⟨r,hx,hr,hm,ht,hd⟩:=inL hk;have hw:=wr (k:=k) (by omega);simp only[h];simp[hr,hw];refine CI.ff (hf r hm) rfl rfl rfl 9999 ?_;simp;refine sBI (fun hp=>?_) (fun hp=>?_)<;>simp only[hp]<;>simp
  ·first|exact fin0 (by simp[zcr hi hr hp]) rfl|exact zaa (by simp[zcr hi hr hp])
  ·refine hB _ ⟨k+1,by omega,by simp[ht,hi,hp]⟩ [] ?_ (by simp;omega);constructor<;>simp[hw,ht,hp]
 ·have hkl:k=(l).length:=by simp at h;omega
  subst hkl;simp only[h];simp[List.take_length,List.drop_length];rw[List.take_length]at hi;first|exact fin0 (by simp[zbc (fun x hx=>by have:=List.all_eq_true.1 hi x hx;simpa using this)]) rfl|exact zaa (by simp[zbc (fun x hx=>by have:=List.all_eq_true.1 hi x hx;simpa using this)])
attribute [simp] Tryz.ntmps102 Tryz.results102
theorem qi3 (l:List Res)(kf:D)(p:Res→Bool)(hf:∀x∈l,FnOk Tryz.prog (.d kf) [st (resC x)] (bool (p x)))(hl:l.length≤9223372036854775807):Ct Tryz.prog 102 [lst (l.map resC),.d kf] [] [] (bool (l.any p)) []:=by
 refine Ct.B Tryz.func102 mixed 9999 400 ?_;simp;refine CI.p (ztb l kf p hf hl) Tryz.call141 9999 ?_;simp;rw[zgb];first|exact fin0 (by simp) rfl|exact zaa (by simp)
attribute [simp] Tryz.ntmps139 Tryz.results139
theorem qrm (l:List Key)(kf:D)(p:Key→Bool)(hf:∀x∈l,FnOk Tryz.prog (.d kf) [st (keyC x)] (bool (p x)))(hl:l.length≤9223372036854775807):Ct Tryz.prog 139 [lst (l.map keyC),.d kf] [] [] (int (idxF p l)) []:=by
 refine Ct.B Tryz.func139 mixed 9999 400 ?_;simp;refine LoopI.inv mixed rfl (ι:={k:Nat//k≤(l).length∧(l.take k).all (fun x=>!p x)=true}) (fun k=>[(0,lst (l.map keyC)),(1,.d kf),(7,int l.length),(8,int k.1)]) (fun k=>[]) 64 (fun k=>(l).length-k.1) ⟨0,by omega,by simp⟩ [] (by constructor<;>simp) ?_;rintro⟨k,hk1,hi⟩ B hB;refine CI.run 9999 400 rfl ?_;simp;refine sBI (fun h=>?_) (fun h=>?_)
 ·have hk:k<(l).length:=by simpa using h
  obtain⟨r,hx,hr,hm,ht,hd⟩:=inL hk;have hw:=wr (k:=k) (by omega);simp only[h];simp[hr,hw];refine CI.ff (hf r hm) rfl rfl rfl 9999 ?_;simp;refine sBI (fun hp=>?_) (fun hp=>?_)<;>simp only[hp]<;>simp
  ·first|exact fin0 (by simp[zcr hi hr hp]) rfl|exact zaa (by simp[zcr hi hr hp])
  ·refine hB _ ⟨k+1,by omega,by simp[ht,hi,hp]⟩ [] ?_ (by simp;omega);constructor<;>simp[hw,ht,hp]
 ·have hkl:k=(l).length:=by simp at h;omega
  subst hkl;simp only[h];simp[List.take_length,List.drop_length];rw[List.take_length]at hi;first|exact fin0 (by simp[zbc (fun x hx=>by have:=List.all_eq_true.1 hi x hx;simpa using this)]) rfl|exact zaa (by simp[zbc (fun x hx=>by have:=List.all_eq_true.1 hi x hx;simpa using this)])
attribute [simp] Tryz.ntmps99 Tryz.results99
theorem ztx (l:List Key)(kf:D)(p:Key→Bool)(hf:∀x∈l,FnOk Tryz.prog (.d kf) [st (keyC x)] (bool (p x)))(hl:l.length≤9223372036854775807):Ct Tryz.prog 99 [lst (l.map keyC),.d kf] [] [] (bool (l.any p)) []:=by
 refine Ct.B Tryz.func99 mixed 9999 400 ?_;simp;refine CI.p (qrm l kf p hf hl) Tryz.call139 9999 ?_;simp;rw[zgb];first|exact fin0 (by simp) rfl|exact zaa (by simp)
attribute [simp] Tryz.ntmps131 Tryz.results131
theorem zt4 (n m:Int):Ct Tryz.prog 131 [int n,int m] [] [] (bool (rngB n m)) []:=by
 refine Ct.B Tryz.func131 mixed 9999 400 ?_;simp
 repeat' first
  | (refine sGI (fun h=>?_) (fun h=>?_)<;>simp only[h]<;>simp[h])
  | (refine sBI (fun h=>?_) (fun h=>?_)<;>simp only[h]<;>simp[h])
  | (refine⟨(show za5 _ _ from by decide+kernel),?_⟩)
  |fail
 all_goals exact fin0 (by simp[*,rngB]) rfl
attribute [simp] Tryz.ntmps174 Tryz.results174
theorem qtm (w:Weight):Ct Tryz.prog 174 [st (wC w)] [] [] (bool (!rngB w.w 100)) []:=by
 refine Ct.B Tryz.func174 mixed 9999 400 ?_;simp;refine CI.p (zt4 w.w 100) Tryz.call131 9999 ?_;simp;first|exact fin0 (by simp) rfl|exact zaa (by simp)
attribute [simp] Tryz.ntmps132 Tryz.results132
theorem qpf (r:Res):Ct Tryz.prog 132 [st (resC r)] [] [] (bool (zcd r)) []:=by
 refine Ct.B Tryz.func132 mixed 9999 400 ?_;simp;refine CI.p (zt4 r.ver 2147483647) Tryz.call131 9999 ?_;simp;refine sGI (fun h1=>?_) (fun h1=>?_)<;>simp only[h1]<;>simp<;>(try simp only[nT,nF,dT,dF]at h1)
 ·first|exact fin0 (by simp[zcd,h1]) rfl|exact zaa (by simp[zcd,h1])
 refine CI.p (zt4 r.port 65535) Tryz.call131 9999 ?_;simp;refine sGI (fun h2=>?_) (fun h2=>?_)<;>simp only[h2]<;>simp<;>(try simp only[nT,nF,dT,dF]at h2)
 ·first|exact fin0 (by simp[zcd,h2]) rfl|exact zaa (by simp[zcd,h2])
 refine sGI (fun h3=>?_) (fun h3=>?_)<;>simp only[h3]<;>simp<;>(try simp only[nT,nF,dT,dF]at h3)
 ·have hz:¬r.rules.length≤8:=by omega
  first|exact fin0 (by simp[zcd,hz]) rfl|exact zaa (by simp[zcd,hz])
 refine sBI (fun h4=>?_) (fun h4=>?_)<;>simp only[h4]<;>simp<;>(try simp only[nT,nF,dT,dF]at h4)
 ·have hz:¬r.hosts.length≤8:=by omega
  first|exact fin0 (by simp[zcd,hz]) rfl|exact zaa (by simp[zcd,hz])
 have hz3:r.rules.length≤8:=by omega
 have hz4:r.hosts.length≤8:=by omega
 refine LoopI.inv mixed rfl (ι:={k:Nat//k≤(r.hosts).length∧(r.hosts.take k).all (fun h=>rngB h 2147483647)=true}) (fun k=>[(1,.ptr 64 0),(30,lst (r.hosts.map intC)),(31,int r.hosts.length),(32,int k.1)]) (fun k=>[(64,.cells ((resC r).map .d) 146)]) 65 (fun k=>(r.hosts).length-k.1) ⟨0,by omega,by simp⟩ [] (by constructor<;>simp) ?_;rintro⟨k,hk1,hi⟩ B hB;refine CI.run 9999 400 rfl ?_;simp;refine sBI (fun h=>?_) (fun h=>?_)
 ·have hk:k<(r.hosts).length:=by simpa using h
  obtain⟨y,hx,hr,hm,ht,hd⟩:=inL hk;have hw:=wr (k:=k) (by omega);simp only[h];simp[hr,hw];refine CI.p (zt4 y 2147483647) Tryz.call131 9999 ?_;simp;refine sBI (fun h5=>?_) (fun h5=>?_)<;>simp only[h5]<;>simp<;>(try simp only[nT,nF,dT,dF]at h5)
  ·have e:r.hosts.all (fun h=>rngB h 2147483647)=false:=by
    rw[List.all_eq_false];exact⟨y,hm,by simp[h5]⟩
   first|exact fin0 (by simp[zcd,e]) rfl|exact zaa (by simp[zcd,e])
  ·refine hB _ ⟨k+1,by omega,by simp[ht,hi,h5]⟩ [] ?_ (by simp;omega);constructor<;>simp[hw,ht,h5]
 ·have hkl:k=(r.hosts).length:=by simp at h;omega
  subst hkl;simp only[h];simp[List.take_length,List.drop_length];rw[List.take_length]at hi;have hh:=hi;refine LoopI.inv mixed rfl (ι:={k:Nat//k≤(r.rules).length∧(r.rules.take k).all zht=true}) (fun k=>[(1,.ptr 64 0),(41,lst (r.rules.map zbn)),(42,int r.rules.length),(43,int k.1)]) (fun k=>[(64,.cells ((resC r).map .d) 146)]) 65 (fun k=>(r.rules).length-k.1) ⟨0,by omega,by simp⟩ [] (by constructor<;>simp) ?_;rintro⟨k,hk1,hi⟩ B hB;refine CI.run 9999 400 rfl ?_;simp;refine sBI (fun h=>?_) (fun h=>?_)
  ·have hk:k<(r.rules).length:=by simpa using h
   obtain⟨x,hx,hr,hm,ht,hd⟩:=inL hk;have hw:=wr (k:=k) (by omega);simp only[h];simp[hr,hw];refine sGI (fun h6=>?_) (fun h6=>?_)<;>simp only[h6]<;>simp<;>(try simp only[nT,nF,dT,dF]at h6)
   ·have hz:¬x.split.length≤4:=by omega
    have e:r.rules.all zht=false:=by
     rw[List.all_eq_false];exact⟨x,hm,by simp[zht,hz]⟩
    first|exact fin0 (by simp[zcd,e]) rfl|exact zaa (by simp[zcd,e])
   have hz:x.split.length≤4:=by omega
   refine CI.p (zmr x.split (fnD 174) (fun w=>!rngB w.w 100) (fun w _=>FnOk.of (qtm w) Tryz.call174 rfl rfl) (by omega)) Tryz.call173 9999 ?_;simp;refine sBI (fun h7=>?_) (fun h7=>?_)<;>simp only[h7]<;>simp<;>(try simp only[nT,nF,dT,dF]at h7)
   ·have e:r.rules.all zht=false:=by
     rw[List.all_eq_false];refine⟨x,hm,?_⟩;simp[zht,hz];simpa using h7
    first|exact fin0 (by simp[zcd,e]) rfl|exact zaa (by simp[zcd,e])
   ·have e:zht x=true:=by
     simp[zht,hz];simpa using h7
    refine hB _ ⟨k+1,by omega,by simp[ht,hi,e]⟩ [] ?_ (by simp;omega);constructor<;>simp[hw,ht,e]
  ·have hkl:k=(r.rules).length:=by simp at h;omega
   subst hkl;simp only[h];simp[List.take_length,List.drop_length];rw[List.take_length]at hi;first|exact fin0 (by simp[zcd,hi,hh,h1,h2,hz3,hz4]) rfl|exact zaa (by simp[zcd,hi,hh,h1,h2,hz3,hz4])
attribute [simp] Tryz.ntmps176 Tryz.results176
theorem quz (k:Int):Ct Tryz.prog 176 [int k] [] [] (.agg [bool (mayP k),bool (mayT k),bool (mayR k),bool (mayH k)]) []:=by
 refine Ct.B Tryz.func176 mixed 9999 400 ?_;simp
 repeat' first
  | (refine sGI (fun h=>?_) (fun h=>?_)<;>simp only[h]<;>simp[h])
  | (refine sBI (fun h=>?_) (fun h=>?_)<;>simp only[h]<;>simp[h])
  | (refine⟨(show za5 _ _ from by decide+kernel),?_⟩)
  |fail
 all_goals exact fin0 (by simp[*,mayP,mayT,mayR,mayH]) rfl
attribute [simp] Tryz.ntmps175 Tryz.results175
theorem qxh (a b c d x y z t:Bool):Ct Tryz.prog 175 [.agg [bool a,bool b,bool c,bool d],.agg [bool x,bool y,bool z,bool t]] [] [] (.agg [bool (a&&x),bool (b&&y),bool (c&&z),bool (d&&t)]) []:=by
 refine Ct.B Tryz.func175 mixed 9999 400 ?_;simp;cases a<;>cases b<;>cases c<;>cases d<;>(simp[Tryz.ntmps127,Tryz.results127])<;>exact fin0 (by simp) rfl
attribute [simp] Tryz.ntmps133 Tryz.results133
theorem qjx (r:Res):Ct Tryz.prog 133 [st (resC r)] [] [] (bool (zgi r)) []:=by
 refine Ct.B Tryz.func133 mixed 9999 400 ?_;simp;refine CI.p (quz r.kind) Tryz.call176 9999 ?_;simp;refine CI.p (qxh (!decide (r.port=0)) (!decide (r.to=⟨#[]⟩)) (decide (0<r.rules.length)) (decide (0<r.hosts.length)) (mayP r.kind) (mayT r.kind) (mayR r.kind) (mayH r.kind)) Tryz.call175 9999 ?_;simp;refine⟨by decide+kernel,?_⟩;have e1:decide (r.rules.length=0)= !decide (0<r.rules.length):=by cases r.rules<;>simp
 have e2:decide (r.hosts.length=0)= !decide (0<r.hosts.length):=by cases r.hosts<;>simp
 have e3:decide (bs r.to=[])=decide (r.to=⟨#[]⟩):=by
  rw[Bool.eq_iff_iff,decide_eq_true_eq,decide_eq_true_eq,zuf];rfl
 have e:zgi r=((decide (r.port=0)||mayP r.kind)&&((decide (r.to=⟨#[]⟩)||mayT r.kind)&&((!decide (0<r.rules.length)||mayR r.kind)&&(!decide (0<r.hosts.length)||mayH r.kind)))):=by
  rw[zgi,e1,e2,e3,Bool.and_assoc,Bool.and_assoc]
 rw[e];first|exact fin0 (by simp) rfl|exact zaa (by simp)
attribute [simp] Tryz.ntmps225 Tryz.results225
theorem qwr (w:Weight):Ct Tryz.prog 225 [st (wC w)] [] [] (bool (!zcy w.cluster)) []:=by
 refine Ct.B Tryz.func225 mixed 9999 400 ?_;simp;refine CI.p (zfc w.cluster) Tryz.call128 9999 ?_;simp;first|exact fin0 (by simp) rfl|exact zaa (by simp)
attribute [simp] Tryz.ntmps226 Tryz.results226
theorem qoa (w:Weight):Ct Tryz.prog 226 [st (wC w)] [] [] (bool (decide (0<w.w))) []:=by
 refine Ct.B Tryz.func226 mixed 9999 400 ?_;simp;first|exact fin0 (by simp) rfl|exact zaa (by simp)
attribute [simp] Tryz.ntmps181 Tryz.results181
theorem qje (x:Rule)(hl:x.split.length≤4):Ct Tryz.prog 181 [st (zbn x)] [] [] (bool (zl3 x)) []:=by
 refine Ct.B Tryz.func181 mixed 9999 400 ?_;simp;refine CI.p (zmr x.split (fnD 226) (fun w=>decide (0<w.w)) (fun w _=>FnOk.of (qoa w) Tryz.call226 rfl rfl) (by omega)) Tryz.call173 9999 ?_;simp;first|exact fin0 (by simp[zl3]) rfl|exact zaa (by simp[zl3])
attribute [simp] Tryz.ntmps179 Tryz.results179
theorem qtt (x:Rule)(hl:x.split.length≤4):Ct Tryz.prog 179 [st (zbn x)] [] [] (bool (znl x)) []:=by
 refine Ct.B Tryz.func179 mixed 9999 400 ?_;simp;refine CI.p (qhr x.host) Tryz.call223 9999 ?_;simp;refine sGI (fun h1=>?_) (fun h1=>?_)<;>simp only[h1]<;>simp<;>(try simp only[nT,nF,dT,dF]at h1)
 ·refine CI.p (qgg x.pre) Tryz.call224 9999 ?_;simp;refine sGI (fun h2=>?_) (fun h2=>?_)<;>simp only[h2]<;>simp<;>(try simp only[nT,nF,dT,dF]at h2)
  ·refine CI.p (zmr x.split (fnD 225) (fun w=>!zcy w.cluster) (fun w _=>FnOk.of (qwr w) Tryz.call225 rfl rfl) (by omega)) Tryz.call173 9999 ?_;simp;first|exact fin0 (by simp[znl,h1,h2,List.all_eq_not_any_not]) rfl|exact zaa (by simp[znl,h1,h2,List.all_eq_not_any_not])
  ·first|exact fin0 (by simp[znl,h1,h2]) rfl|exact zaa (by simp[znl,h1,h2])
 ·first|exact fin0 (by simp[znl,h1]) rfl|exact zaa (by simp[znl,h1])
attribute [simp] Tryz.ntmps178 Tryz.results178
theorem qnv (x:Rule)(hl:x.split.length≤4):Ct Tryz.prog 178 [st (zbn x)] [] [] (bool (!znl x)) []:=by
 refine Ct.B Tryz.func178 mixed 9999 400 ?_;simp;refine CI.p (qtt x hl) Tryz.call179 9999 ?_;simp;first|exact fin0 (by simp) rfl|exact zaa (by simp)
attribute [simp] Tryz.ntmps134 Tryz.results134
theorem qq5 (r:Res)(hl:r.rules.length≤8∧∀x∈r.rules,x.split.length≤4):Ct Tryz.prog 134 [st (resC r)] [] [] (bool (zhv r)) []:=by
 refine Ct.B Tryz.func134 mixed 9999 400 ?_;simp;refine CI.p (quz r.kind) Tryz.call176 9999 ?_;simp;refine sGI (fun h1=>?_) (fun h1=>?_)<;>simp only[h1]<;>simp<;>(try simp only[nT,nF,dT,dF]at h1)
 ·refine CI.p (zfc r.to) Tryz.call128 9999 ?_;simp;refine sBI (fun h2=>?_) (fun h2=>?_)<;>simp only[h2]<;>simp<;>(try simp only[nT,nF,dT,dF]at h2)
  ·first|exact fin0 (by simp[zhv,h1,h2]) rfl|exact zaa (by simp[zhv,h1,h2])
  refine CI.p (ztw r.rules (fnD 178) (fun x=>!znl x) (fun x hx=>FnOk.of (qnv x (hl.2 x hx)) Tryz.call178 rfl rfl) (by omega)) Tryz.call177 9999 ?_;simp;first|exact fin0 (by simp[zhv,h1,h2,List.all_eq_not_any_not]) rfl|exact zaa (by simp[zhv,h1,h2,List.all_eq_not_any_not])
 ·refine CI.p (ztw r.rules (fnD 178) (fun x=>!znl x) (fun x hx=>FnOk.of (qnv x (hl.2 x hx)) Tryz.call178 rfl rfl) (by omega)) Tryz.call177 9999 ?_;simp;first|exact fin0 (by simp[zhv,h1,List.all_eq_not_any_not]) rfl|exact zaa (by simp[zhv,h1,List.all_eq_not_any_not])
attribute [simp] Tryz.ntmps180 Tryz.results180
theorem qph (x y:Rule):Ct Tryz.prog 180 [st (zbn y),.d (.pro (zbn x))] [] [] (bool (zp5 x y)) []:=by
 refine Ct.B Tryz.func180 mixed 9999 400 ?_;simp;refine sGI (fun h1=>?_) (fun h1=>?_)<;>simp only[h1]<;>simp<;>(try simp only[nT,nF,dT,dF]at h1)
 ·first|exact fin0 (by simp[zp5,h1]) rfl|exact zaa (by simp[zp5,h1])
 ·first|exact fin0 (by simp[zp5,h1]) rfl|exact zaa (by simp[zp5,h1])
attribute [simp] Tryz.ntmps227 Tryz.results227
theorem qrn (l:List Int)(v:Int)(hl:l.length≤9223372036854775807):Ct Tryz.prog 227 [lst (l.map intC),int v] [] [] (int (idxF (fun x=>decide (v=x)) l)) []:=by
 refine Ct.B Tryz.func227 mixed 9999 400 ?_;simp;refine LoopI.inv mixed rfl (ι:={k:Nat//k≤(l).length∧(l.take k).all (fun x=>!decide (v=x))=true}) (fun k=>[(0,lst (l.map intC)),(1,int v),(7,int l.length),(8,int k.1)]) (fun k=>[]) 64 (fun k=>(l).length-k.1) ⟨0,by omega,by simp⟩ [] (by constructor<;>simp) ?_;rintro⟨k,hk1,hi⟩ B hB;refine CI.run 9999 400 rfl ?_;simp;refine sBI (fun h=>?_) (fun h=>?_)
 ·have hk:k<(l).length:=by simpa using h
  obtain⟨r,hx,hr,hm,ht,hd⟩:=inL hk;have hw:=wr (k:=k) (by omega);simp only[h];simp[hr,hw];refine sBI (fun hp=>?_) (fun hp=>?_)<;>simp only[hp]<;>simp<;>(try simp only[nT,nF,dT,dF]at hp)
  ·first|exact fin0 (by simp[zcr (p:=fun x=>decide (v=x)) hi hr (by simp[hp])]) rfl|exact zaa (by simp[zcr (p:=fun x=>decide (v=x)) hi hr (by simp[hp])])
  ·refine hB _ ⟨k+1,by omega,by simp[ht,hi,hp]⟩ [] ?_ (by simp;omega);constructor<;>simp[hw,ht,hp]
 ·have hkl:k=(l).length:=by simp at h;omega
  subst hkl;simp only[h];simp[List.take_length,List.drop_length];rw[List.take_length]at hi;first|exact fin0 (by simp[zbc (p:=fun x=>decide (v=x)) (fun x hx=>by have:=List.all_eq_true.1 hi x hx;simpa using this)]) rfl|exact zaa (by simp[zbc (p:=fun x=>decide (v=x)) (fun x hx=>by have:=List.all_eq_true.1 hi x hx;simpa using this)])
attribute [simp] Tryz.ntmps182 Tryz.results182
theorem qrt (l:List Int)(v:Int)(hl:l.length≤9223372036854775807):Ct Tryz.prog 182 [lst (l.map intC),int v] [] [] (bool (l.any fun x=>decide (v=x))) []:=by
 refine Ct.B Tryz.func182 mixed 9999 400 ?_;simp;refine CI.p (qrn l v hl) Tryz.call227 9999 ?_;simp;rw[zgb];first|exact fin0 (by simp) rfl|exact zaa (by simp)
attribute [simp] Tryz.ntmps135 Tryz.results135
theorem qjw (r:Res)(hl:r.rules.length≤8∧r.hosts.length≤8∧∀x∈r.rules,x.split.length≤4):Ct Tryz.prog 135 [st (resC r)] [] [] (bool (zfg r)) []:=by
 refine Ct.B Tryz.func135 mixed 9999 400 ?_;simp;obtain⟨hl1,hl2,hl3⟩:=hl;refine LoopI.inv mixed rfl (ι:={k:Nat//k≤(r.rules).length∧((r.rules.take k).all zl3=true∧zg9 zp5 (r.rules.take k) (r.rules.drop k)=zg9 zp5 [] r.rules)}) (fun k=>[(1,.ptr 64 0),(9,lst (r.rules.map zbn)),(10,int r.rules.length),(11,int k.1)]) (fun k=>[(64,.cells ((resC r).map .d) 146)]) 65 (fun k=>(r.rules).length-k.1) ⟨0,by omega,by simp⟩ [] (by constructor<;>simp) ?_;rintro⟨k,hk1,hi⟩ B hB;refine CI.run 5 400 rfl ?_;simp;refine sBI (fun h=>?_) (fun h=>?_)
 ·have hk:k<(r.rules).length:=by simpa using h
  obtain⟨x,hx,hr,hm,ht,hd⟩:=inL hk;have hw:=wr (k:=k) (by omega);simp only[h];simp[hr,hw];refine CI.s (tm:=[(1,.ptr 64 0),(9,lst (r.rules.map zbn)),(10,int r.rules.length),(11,int k),(3,int k),(4,.d (.pro (zbn x))),(5,.d (.fn (.func 180) [] [.pro (zbn x)]))]) (mm:=[(64,.cells ((resC r).map .d) 146)]) (nx:=65) [] [321] (by constructor<;>simp) ?_;obtain⟨hi1,hi2⟩:=hi;rw[hd,zg9]at hi2;refine CI.run 9999 400 rfl ?_;simp;refine CI.p (qje x (hl3 x hm)) Tryz.call181 9999 ?_;simp;refine sGI (fun h1=>?_) (fun h1=>?_)<;>simp only[h1]<;>simp<;>(try simp only[nT,nF,dT,dF]at h1)
  ·have e:r.rules.all zl3=false:=by
    rw[List.all_eq_false];exact⟨x,hm,by simp[h1]⟩
   first|exact fin0 (by simp[zfg,e]) rfl|exact zaa (by simp[zfg,e])
  refine⟨by omega,?_⟩;refine CI.p (ztw (r.rules.take k) (.fn (.func 180) [] [.pro (zbn x)]) (zp5 x) (fun y _=>FnOk.clo (qph x y) Tryz.call180 rfl rfl) (by simp;omega)) Tryz.call177 9999 ?_;simp;refine sBI (fun h2=>?_) (fun h2=>?_)<;>simp only[h2]<;>simp<;>(try simp only[nT,nF,dT,dF]at h2)
  ·have e:zg9 zp5 [] r.rules=false:=by rw[←hi2,h2];rfl
   first|exact fin0 (by simp[zfg,e]) rfl|exact zaa (by simp[zfg,e])
  ·refine hB _ ⟨k+1,by omega,by simp[ht,hi1,h1],by rw[ht,←hi2,h2];rfl⟩ [] ?_ (by simp;omega);constructor<;>simp[hw]
 ·have hkl:k=(r.rules).length:=by simp at h;omega
  subst hkl;simp only[h];simp[List.take_length,List.drop_length];rw[List.take_length,List.drop_length]at hi;obtain⟨hi1,hi2⟩:=hi;simp only[zg9]at hi2;refine LoopI.inv mixed rfl (ι:={k:Nat//k≤(r.hosts).length∧(zg9 (fun a b:Int=>decide (a=b)) (r.hosts.take k) (r.hosts.drop k)=zg9 (fun a b=>decide (a=b)) [] r.hosts)}) (fun k=>[(1,.ptr 64 0),(30,lst (r.hosts.map intC)),(31,int r.hosts.length),(32,int k.1)]) (fun k=>[(64,.cells ((resC r).map .d) 146)]) 65 (fun k=>(r.hosts).length-k.1) ⟨0,by omega,by simp⟩ [] (by constructor<;>simp) ?_;rintro⟨k,hk1,hi⟩ B hB;refine CI.run 9999 400 rfl ?_;simp;refine sBI (fun h=>?_) (fun h=>?_)
  ·have hk:k<(r.hosts).length:=by simpa using h
   obtain⟨y,hx,hr,hm,ht,hd⟩:=inL hk;have hw:=wr (k:=k) (by omega);simp only[h];simp[hr,hw];rw[hd,zg9]at hi;refine⟨by omega,?_⟩;refine CI.p (qrt (r.hosts.take k) y (by simp;omega)) Tryz.call182 9999 ?_;simp;refine sBI (fun h2=>?_) (fun h2=>?_)<;>simp only[h2]<;>simp<;>(try simp only[nT,nF,dT,dF]at h2)
   ·have e:zg9 (fun a b:Int=>decide (a=b)) [] r.hosts=false:=by rw[←hi,h2];rfl
    first|exact fin0 (by simp[zfg,e]) rfl|exact zaa (by simp[zfg,e])
   ·refine hB _ ⟨k+1,by omega,by rw[ht,←hi,h2];rfl⟩ [] ?_ (by simp;omega);constructor<;>simp[hw]
  ·have hkl:k=(r.hosts).length:=by simp at h;omega
   subst hkl;simp only[h];simp[List.take_length,List.drop_length];rw[List.take_length,List.drop_length]at hi;simp only[zg9]at hi;first|exact fin0 (by simp[zfg,hi1,←hi2,←hi]) rfl|exact zaa (by simp[zfg,hi1,←hi2,←hi])
end Go.Proofs.YtekckhepcdndcaaGreatDoor
namespace Go.Proofs.YtekckhepcdndcaaGreatDoor
open Go.AI Go.G
set_option maxRecDepth 20000
theorem zmx {r:Res}(h:zcd r=true):r.rules.length≤8∧r.hosts.length≤8∧∀x∈r.rules,x.split.length≤4:=by
 simp only[zcd,Bool.and_eq_true,decide_eq_true_eq,List.all_eq_true,zht]at h;exact⟨h.1.1.1.2,h.1.1.2,fun x hx=>(h.2 x hx).1⟩
attribute [simp] Tryz.ntmps94 Tryz.results94
theorem zm0 (r:Res):Ct Tryz.prog 94 [st (resC r)] [] [] (int (za8 r)) []:=by
 refine Ct.B Tryz.func94 mixed 9999 400 ?_;simp;refine CI.p (zt4 r.kind 3) Tryz.call131 9999 ?_;simp;refine sBI (fun h1=>?_) (fun h1=>?_)<;>simp only[h1]<;>simp<;>(try simp only[nT,nF,dT,dF]at h1)
 ·first|exact fin0 (by simp[za8,h1]) rfl|exact zaa (by simp[za8,h1])
 refine CI.p (zfc r.name) Tryz.call128 9999 ?_;simp;refine sBI (fun h2=>?_) (fun h2=>?_)<;>simp only[h2]<;>simp<;>(try simp only[nT,nF,dT,dF]at h2)
 ·first|exact fin0 (by simp[za8,h1,h2]) rfl|exact zaa (by simp[za8,h1,h2])
 refine CI.p (qpf r) Tryz.call132 9999 ?_;simp;refine sBI (fun h3=>?_) (fun h3=>?_)<;>simp only[h3]<;>simp<;>(try simp only[nT,nF,dT,dF]at h3)
 ·first|exact fin0 (by simp[za8,h1,h2,h3]) rfl|exact zaa (by simp[za8,h1,h2,h3])
 have hb:=zmx h3;refine CI.p (qjx r) Tryz.call133 9999 ?_;simp;refine sBI (fun h4=>?_) (fun h4=>?_)<;>simp only[h4]<;>simp<;>(try simp only[nT,nF,dT,dF]at h4)
 ·first|exact fin0 (by simp[za8,h1,h2,h3,h4]) rfl|exact zaa (by simp[za8,h1,h2,h3,h4])
 refine CI.p (qq5 r ⟨hb.1,hb.2.2⟩) Tryz.call134 9999 ?_;simp;refine sBI (fun h5=>?_) (fun h5=>?_)<;>simp only[h5]<;>simp<;>(try simp only[nT,nF,dT,dF]at h5)
 ·first|exact fin0 (by simp[za8,h1,h2,h3,h4,h5]) rfl|exact zaa (by simp[za8,h1,h2,h3,h4,h5])
 refine CI.p (qjw r hb) Tryz.call135 9999 ?_;simp;refine sBI (fun h6=>?_) (fun h6=>?_)<;>simp only[h6]<;>simp<;>(try simp only[nT,nF,dT,dF]at h6)
 ·first|exact fin0 (by simp[za8,h1,h2,h3,h4,h5,h6]) rfl|exact zaa (by simp[za8,h1,h2,h3,h4,h5,h6])
 ·first|exact fin0 (by simp[za8,h1,h2,h3,h4,h5,h6]) rfl|exact zaa (by simp[za8,h1,h2,h3,h4,h5,h6])
theorem rng_yes {n m:Int}:rngB n m=true↔0≤n∧n≤m:=by simp[rngB]
end Go.Proofs.YtekckhepcdndcaaGreatDoor
