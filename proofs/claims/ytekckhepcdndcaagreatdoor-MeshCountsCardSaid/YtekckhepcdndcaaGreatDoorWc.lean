/-
  LAYERS 3, 5, 6, 14: the walks of references and views, of configurations, of stores; what the laws' arguments are.
-/
import Derived.Test.YtekckhepcdndcaaGreatDoorWb
import Derived.Test.YtekckhepcdndcaaGreatDoorPl
import Derived.Test.YtekckhepcdndcaaGreatDoorTy
import Derived.Test.YtekckhepcdndcaaGreatDoorFc
set_option linter.unusedSimpArgs false
set_option linter.unusedVariables false
namespace Go.Proofs.YtekckhepcdndcaaGreatDoor
open Go.AI Go.G
set_option maxRecDepth 20000
attribute [simp] Tryz.ntmps294 Tryz.results294
theorem zlt (l:List Key)(hl:l.length≤1000000):Ct Tryz.prog 294 [.own 0] [] [(0,.grow 2 (l.map keyC) 135)] (lst ((zf3 l).map keyC)) []:=by
 refine Ct.B Tryz.func294 mixed 9999 400 ?_;simp;refine sBI (fun h0=>?_) (fun h0=>?_)<;>simp only[h0]<;>simp<;>(try simp only[nT,nF,dT,dF]at h0)
 ·have e:zf3 l=l:=qdb h0;first| (refine⟨[],?_,?_,?_,?_,?_,?_,?_⟩<;>simp[nmF,inB,e];done)| (refine⟨by decide+kernel,?_⟩;refine⟨[],?_,?_,?_,?_,?_,?_,?_⟩<;>simp[nmF,inB,e])
 refine LoopI.inv mixed rfl (ι:={k:Nat//k+1≤l.length∧zf3 (l.take (k+1))=l.take (k+1)}) (fun k=>[(0,.own 0),(3,int ((k.1:Int)+1))]) (fun k=>[(0,.grow 2 (l.map keyC) 135)]) 64 (fun k=>l.length-k.1) ⟨0,by omega,qdc l⟩ [] (by constructor<;>simp) ?_;rintro⟨m,hk1,hi⟩ B hB;refine CI.run 9999 400 rfl ?_;simp;refine sBI (fun h=>?_) (fun h=>?_)<;>simp only[h]<;>simp<;>(try simp only[nT,nF,dT,dF]at h)
 ·have hk:m+1<l.length:=by omega
  have hk':m<l.length:=by omega
  have hv:l[m+1]? =some l[m+1]:=List.getElem?_eq_getElem hk;have hq:l[m]? =some l[m]:=List.getElem?_eq_getElem hk';have w0:IntKind.wrap .i64 (m:Int)=m:=zab (by omega) (by omega);have w1:IntKind.wrap .i64 ((m:Int)+1+1)=(m:Int)+1+1:=zab (by omega) (by omega);have c1:(0:Int)≤(m:Int)+1:=by omega
  have c2:(m:Int)<l.length:=by omega
  generalize hvu:l[m+1]=u at hv;generalize hqu:l[m]=q0 at hq;have hs:=zlu (by omega) (show l[m+1-1]? =_ from hq) hv;simp[h,hvu,hqu,c1,c2,hv,hq,w0];rw[zrg];refine⟨by decide+kernel,?_⟩;refine sBI (fun h2=>?_) (fun h2=>?_)<;>simp only[h2]<;>simp[hv,hq]<;>(try simp only[nT,nF,dT,dF]at h2)
  ·refine⟨by omega,?_⟩;rw[h2]at hv;have d0:CompSt l (m+2+0) (m+1) l:=CompSt.start (by omega) hi hq hv;clear hv hq hs w0 w1 c1 c2 hi hB;refine LoopI.inv mixed rfl (ι:={q:Nat×Nat×List Key//CompSt l (m+2+q.1) q.2.1 q.2.2}) (fun k=>[(0,.own 0),(3,int k.1.2.1),(4,.sl 0 2 (m+1) (l.length-(m+1))),(5,int ((k.1.1:Int)+1))]) (fun k=>[(0,.grow 2 (k.1.2.2.map keyC) 135)]) 64 (fun k=>l.length-k.1.1) ⟨(0,m+1,l),d0⟩ [] (by constructor<;>simp) ?_;rintro⟨⟨d,i,cur⟩,hd⟩ B hB;have hlen:=hd.len;have hlt:=hd.lt;have hle:=hd.le;simp only at hlen hlt hle;have w1:IntKind.wrap .i64 ((d:Int)+1+1)=d+1+1:=zab (by omega) (by omega);have w2:IntKind.wrap .i64 ((i:Int)+1)=i+1:=zab (by omega) (by omega);have w0:IntKind.wrap .i64 (d:Int)=d:=zab (by omega) (by omega);refine CI.run 9999 400 rfl ?_;simp[hlen];refine sBI (fun h3=>?_) (fun h3=>?_)<;>simp only[h3]<;>simp<;>(try simp only[nT,nF,dT,dF]at h3)
   ·have hj:m+1+(d+1)<l.length:=by omega
    have hj':m+1+d<l.length:=by omega
    have hv:l[m+2+d]? =some l[m+1+(d+1)]:=by rw[←List.getElem?_eq_getElem hj];congr 1;omega
    have hq:l[m+2+d-1]? =some l[m+1+d]:=by rw[←List.getElem?_eq_getElem hj'];congr 1;omega
    generalize l[m+1+(d+1)]=v at hv;generalize l[m+1+d]=q at hq;have hg:cur[m+1+(d+1)]? =some v:=by have:=hd.get hv;rwa[show m+2+d=m+1+(d+1) by omega]at this
    have hg':cur[m+1+d]? =some q:=by have:=hd.get' hq;rwa[show m+2+d-1=m+1+d by omega]at this
    have c1:(0:Int)≤(d:Int)+1:=by omega
    have c2:(d:Int)<((l.length-(m+1):Nat):Int):=by omega
    simp[h3,c1,c2,w0,hg,hg'];rw[qnz];refine⟨by decide+kernel,?_⟩;have hic:i<cur.length:=by omega
    refine sBI (fun h4=>?_) (fun h4=>?_)<;>simp only[h4]<;>simp[h3,c1,c2,hg,hg',hic]<;>(try simp only[nT,nF,dT,dF]at h4)
    ·refine hB _ ⟨(d+1,i+1,cur.set i v),by exact hd.keep hv hq (fun e=>h4 e.symm)⟩ [] ?_ (by simp;omega);constructor<;>simp[w1,w2,List.map_set]
    ·rw[←h4]at hq;refine hB _ ⟨(d+1,i,cur),by exact hd.same hv hq⟩ [] ?_ (by simp;omega);constructor<;>simp[w1]
   ·have hj:m+2+d=l.length:=by omega
    simp only at hd;rw[hj]at hd;have e:cur.take i=zf3 l:=hd.done;have e2:List.take i (List.map keyC cur)=List.map keyC (zf3 l):=by rw[←List.map_take,e]
    have e3:(zf3 l).length=i:=by rw[←e,List.length_take];omega
    refine⟨by omega,by omega,by omega,?_⟩;rw[e2];first| (refine⟨[],?_,?_,?_,?_,?_,?_,?_⟩<;>simp[nmF,inB,e3,List.take_append,show i≤i+(l.length-i+(l.length-(i+(l.length-i))))from by omega];done)| (refine⟨by decide+kernel,?_⟩;refine⟨[],?_,?_,?_,?_,?_,?_,?_⟩<;>simp[nmF,inB,e3,List.take_append,show i≤i+(l.length-i+(l.length-(i+(l.length-i))))from by omega])
  ·rw[if_neg (fun e=>h2 e.symm)]at hs;refine hB _ ⟨m+1,by omega,by rw[hs,hi,List.take_add_one (i:=m+1),hv];rfl⟩ [] ?_ (by simp;omega);constructor<;>simp[w1]
 ·have e:zf3 l=l:=by
   have hl2:m+1=l.length:=by omega
   rw[hl2,List.take_length]at hi;exact hi
  first| (refine⟨[],?_,?_,?_,?_,?_,?_,?_⟩<;>simp[nmF,inB,e];done)| (refine⟨by decide+kernel,?_⟩;refine⟨[],?_,?_,?_,?_,?_,?_,?_⟩<;>simp[nmF,inB,e])
end Go.Proofs.YtekckhepcdndcaaGreatDoor
namespace Go.Proofs.YtekckhepcdndcaaGreatDoor
open Go.AI Go.G Go.Sort Go.Proofs Go.RowKit Go.Shelf
set_option maxRecDepth 20000
def keyV (k:Key):List Value:=[.int .i64 k.kind,.string k.name]
instance keyInh :Inhabited Key:=⟨⟨0,.empty⟩⟩
theorem zzu (l:List Key)(hl:l.length<4611686018427387904):Ct Tryz.prog 293 [.own 0,.d (fnD 288)] [] [(0,.grow 2 (l.map keyC) 135)] (.d (.v (.tuple #[]))) [(0,.grow 2 ((zks l).map keyC) 135)]:=
 Ct.sort (enc:=keyV) (k:=2) (cf:=cmpK) (sortL:=zks) (by decide) (fun _=>rfl) (fun x v hv=>by simp[keyV]at hv;rcases hv with rfl|rfl<;>rfl) zep
  (fun p cap fv w=>AnyF.slices_SortFunc_none {Tryz.sortKeys with} p cap fv w)
  (fun blk off cap d w hc hH hb hs=>AnyQ.slices_SortFunc_total Tryz.sortKeys 2 (fun w=>by kernel_rfl) (fun w=>by kernel_rfl) keyV (fun _=>rfl) (fun x v hv=>by simp[keyV]at hv;rcases hv with rfl|rfl<;>rfl) cmpK swoK 288 #[] blk off cap d w Tryz.call288 hc hH hb hs (fun x y h1 h2=>qra h1 h2))
  (fun a b=>qis a b) hl
end Go.Proofs.YtekckhepcdndcaaGreatDoor
namespace Go.Proofs.YtekckhepcdndcaaGreatDoor
open Go.AI Go.G
set_option maxRecDepth 20000
attribute [simp] Tryz.ntmps292 Tryz.results292
theorem zz4 (r:Res):Ct Tryz.prog 292 [st (resC r)] [] [] (lst ((zby r).map keyC)) []:=by
 refine Ct.B Tryz.func292 mixed 9999 400 ?_;simp;refine CI.p (zm0 r) Tryz.call94 9999 ?_;simp;refine sBI (fun h1=>?_) (fun h1=>?_)<;>simp only[h1]<;>simp<;>(try simp only[nT,nF,dT,dF]at h1)
 ·first|exact fin0 (by simp[zby,h1]) rfl|exact zaa (by simp[zby,h1])
 obtain⟨hk0,hn,hs,hsh,hnm,hsg⟩:=zgu h1;have hk:=rng_yes.1 hk0;have hb:=zmx hs;have hwk:IntKind.wrap .i64 (r.kind+1)=r.kind+1:=zab (by omega) (by omega);refine sBI (fun h2=>?_) (fun h2=>?_)<;>simp only[h2]<;>simp<;>(try simp only[nT,nF,dT,dF]at h2)
 ·have hto:¬bs r.to=[]:=fun e=>h2 (zru e);have hr0:=qji hsh hto;have h0:outP r 0=[⟨r.kind+1,r.to⟩]:=by rw[zvb,if_neg hto]
  have e:=zvc h1;rw[hr0]at e;simp only[List.length_nil,h0]at e;simp[hr0,hwk];refine LoopI.unroll mixed (Plain.retC _ _ _ _ _) rfl ?_;refine CI.run 9999 400 rfl ?_;simp;refine CI.cc [1152] (zzu [⟨r.kind+1,r.to⟩] (by simp)) Tryz.call293 9999 ?_;simp;refine CI.cc [1152] (zlt (zks [⟨r.kind+1,r.to⟩]) (by rw[zep];simp)) Tryz.call294 9999 ?_;simp;rw[e];first|exact fin0 (by simp) rfl|exact zaa (by simp)
 ·have hto:bs r.to=[]:=by
   have:r.to=⟨#[]⟩:=by simpa using h2
   rw[this];rfl
  have h0:outP r 0=[]:=by rw[zvb,if_pos hto]
  refine LoopI.nilOwn 3 2 135 rfl ?_;refine LoopI.U mixed (r.rules) (fun k=>[(1,.ptr 64 0),(3,.own 65),(24,lst (r.rules.map zbn)),(25,int r.rules.length),(26,int k.1)]) (fun k=>[(64,.cells ((resC r).map .d) 146),(65,.grow 2 ((outP r k.1).map keyC) 135)]) 66 [] (by constructor<;>simp[h0]) ?_;rintro⟨k,hk1⟩ B hB;refine CI.run 9999 400 rfl ?_;simp[h0];refine sBI (fun h=>?_) (fun h=>?_)
  ·have hk:k<(r.rules).length:=by simpa using h
   obtain⟨x,hx,hr,hm,ht,hd⟩:=inL hk;have hw:=wr (k:=k) (by omega);simp only[h];simp[hr,hw];have h7:=hb.2.2 x hm;refine LoopI.U mixed (x.split) (fun kj=>[(1,.ptr 64 0),(3,.own 65),(24,lst (r.rules.map zbn)),(25,int r.rules.length),(26,int k),(31,lst (x.split.map wC)),(32,int x.split.length),(33,int kj.1)]) (fun kj=>[(64,.cells ((resC r).map .d) 146),(65,.grow 2 ((outP r k++((x.split.take kj.1).filter fun w=>decide (0<w.w)).map toKey).map keyC) 135)]) 66 [] (by constructor<;>simp[hr]) ?_;rintro⟨kj,hk1j⟩ Bj hBj;refine CI.run 9999 400 rfl ?_;simp[hr];refine sBI (fun hj=>?_) (fun hj=>?_)
   ·have hkj:kj<(x.split).length:=by simpa using hj
    obtain⟨w,hxj,hrj,hmj,htj,hdj⟩:=inL hkj;have hwj:=wr (k:=kj) (by omega);simp only[hj];simp[hrj,hwj,hr];have hlen:=qab k hb.1 hb.2.2;have h8:((x.split.take kj).filter fun w=>decide (0<w.w)).length≤4:=Nat.le_trans (List.length_filter_le _ _) (Nat.le_trans (by simp;omega) h7);refine sBI (fun h4=>?_) (fun h4=>?_)<;>simp only[h4]<;>simp[hr,hrj]<;>(try simp only[nT,nF,dT,dF]at h4)
    ·refine⟨by omega,?_⟩;refine hBj _ ⟨kj+1,by omega⟩ [] ?_ (by simp;omega);constructor<;>simp[hwj,htj,List.filter_append,h4,hwj]
    ·refine hBj _ ⟨kj+1,by omega⟩ [] ?_ (by simp;omega);constructor<;>simp[hwj,htj,List.filter_append,h4,hwj]
   ·have hklj:kj=(x.split).length:=by simp at hj;omega
    subst hklj;simp only[hj];simp[List.take_length,List.drop_length,hw];refine hB _ ⟨k+1,by omega⟩ [] ?_ (by simp;omega);constructor<;>simp[hw,ht,qgi ht,List.map_append]
  ·have hkl:k=(r.rules).length:=by simp at h;omega
   subst hkl;simp only[h];simp[List.take_length,List.drop_length];have hlen:=qab r.rules.length hb.1 hb.2.2;refine CI.cc [65] (zzu (outP r r.rules.length) (by omega)) Tryz.call293 9999 ?_;simp;refine CI.cc [65] (zlt (zks (outP r r.rules.length)) (by rw[zep];omega)) Tryz.call294 9999 ?_;simp;rw[zvc h1];first|exact fin0 (by simp) rfl|exact zaa (by simp)
attribute [simp] Tryz.ntmps357 Tryz.results357
theorem qkc (l:List Res)(k_:Key)(hl:l.length≤1000000):Ct Tryz.prog 357 [lst (l.map resC),st (keyC k_)] [] [] (lst ((zmf l k_).map keyC)) []:=by
 refine Ct.B Tryz.func357 mixed 9999 400 ?_;simp;refine LoopI.nilOwn 5 2 135 rfl ?_;refine LoopI.U mixed (l) (fun k=>[(3,.ptr 64 0),(5,.own 65),(8,lst (l.map resC)),(9,int l.length),(10,int k.1)]) (fun k=>[(64,.cells ((keyC k_).map .d) 135),(65,.grow 2 ((zmf (l.take k.1) k_).map keyC) 135)]) 66 [] (by constructor<;>simp) ?_;rintro⟨k,hk1⟩ B hB;refine CI.run 9999 400 rfl ?_;simp;refine sBI (fun h=>?_) (fun h=>?_)
 ·have hk:k<(l).length:=by simpa using h
  obtain⟨x,hx,hr,hm,ht,hd⟩:=inL hk;have hw:=wr (k:=k) (by omega);simp only[h];simp[hr,hw];have hlen:((l.take k).filter fun r=>decide (k_∈zby r)).length≤1000000:=Nat.le_trans (List.length_filter_le _ _) (by simp;omega);refine CI.p (zz4 x) Tryz.call292 9999 ?_;simp;refine CI.p (qn0 (zby x) k_ (qp2 x)) Tryz.call356 9999 ?_;simp;refine⟨by decide+kernel,?_⟩;refine sBI (fun h1=>?_) (fun h1=>?_)<;>simp only[h1]<;>simp[hr]<;>(try simp only[nT,nF,dT,dF]at h1)
  ·refine CI.p (zf1 x) Tryz.call165 9999 ?_;simp;refine⟨by omega,?_⟩;refine hB _ ⟨k+1,by omega⟩ [] ?_ (by simp;omega);constructor<;>simp[hw,ht,List.filter_append,h1]
  ·refine hB _ ⟨k+1,by omega⟩ [] ?_ (by simp;omega);constructor<;>simp[hw,ht,List.filter_append,h1]
 ·have hkl:k=(l).length:=by simp at h;omega
  subst hkl;simp only[h];simp[List.take_length,List.drop_length];first|exact fin0 (by simp) rfl|exact zaa (by simp)
end Go.Proofs.YtekckhepcdndcaaGreatDoor
namespace Go.Proofs.YtekckhepcdndcaaGreatDoor
open Go.AI Go.G
set_option maxRecDepth 20000
attribute [simp] Tryz.ntmps189 Tryz.results189
theorem qne (v:View)(f:G.Frame):Ct Tryz.prog 189 [st (zt8 v),st (zai f)] [] [] (st (zt8 (zl9 v f))) []:=by
 refine Ct.B Tryz.func189 mixed 9999 400 ?_;simp;first|exact fin0 (by simp[zl9]) rfl|exact zaa (by simp[zl9])
attribute [simp] Tryz.ntmps323 Tryz.results323
theorem of_p (f:G.Frame):Ct Tryz.prog 323 [st (zai f)] [] [] (.agg [int f.epoch,int f.kind,int f.nonce]) []:=by
 refine Ct.B Tryz.func323 mixed 9999 400 ?_;simp;first|exact fin0 (by simp) rfl|exact zaa (by simp)
attribute [simp] Tryz.ntmps263 Tryz.results263
theorem zyz (v:View)(t:Int)(h:List Key):Ct Tryz.prog 263 [st (zt8 v),int t,lst (h.map keyC)] [] [] (st (zt8 (zda v t h))) []:=by
 refine Ct.B Tryz.func263 mixed 9999 400 ?_;simp;refine sBI (fun h1=>?_) (fun h1=>?_)<;>simp only[h1]<;>simp<;>(try simp only[nT,nF,dT,dF]at h1)
 ·first|exact fin0 (by simp[zda,h1]) rfl|exact zaa (by simp[zda,h1])
 ·first|exact fin0 (by simp[zda,h1]) rfl|exact zaa (by simp[zda,h1])
attribute [simp] Tryz.ntmps262 Tryz.results262
theorem qdr (v:View)(f:G.Frame)(hl:v.have_.length+v.push.adds.length≤1000000)(hg:v.push.gone.length≤9223372036854775807):Ct Tryz.prog 262 [st (zt8 v),st (zai f)] [] [] (.tup [st (zt8 (ansV v f)),int (ansE v f)]) []:=by
 refine Ct.B Tryz.func262 mixed 9999 400 ?_;simp;refine sBI (fun h1=>?_) (fun h1=>?_)<;>simp only[h1]<;>simp
 ·have h1':v.open_=false:=by simpa using h1
  first|exact fin0 (by simp[ansV,ansE,h1']) rfl|exact zaa (by simp[ansV,ansE,h1'])
 have h1':v.open_=true:=by simpa using h1
 refine sGI (fun h2=>?_) (fun h2=>?_)<;>simp only[h2]<;>simp<;>(try simp only[nT,nF,dT,dF]at h2)
 ·refine⟨by decide+kernel,?_⟩;first|exact fin0 (by simp[ansV,ansE,fitF,h1',h2]) rfl|exact zaa (by simp[ansV,ansE,fitF,h1',h2])
 refine CI.p (of_p f) Tryz.call323 9999 ?_;simp;refine CI.p (of_p v.push) Tryz.call323 9999 ?_;simp;refine⟨by decide+kernel,?_⟩;rw[ql1 h2];refine sBI (fun h3=>?_) (fun h3=>?_)<;>simp only[h3]<;>simp
 ·have h3':fitF v f=false:=by simpa using h3
  first|exact fin0 (by simp[ansV,ansE,h1',h3']) rfl|exact zaa (by simp[ansV,ansE,h1',h3'])
 have h3':fitF v f=true:=by simpa using h3
 rw[zw8 h1' h3'];refine sBI (fun h4=>?_) (fun h4=>?_)<;>simp only[h4]<;>simp<;>(try simp only[nT,nF,dT,dF]at h4)
 ·refine CI.p (zso v.have_ v.push.adds v.push.gone hl hg) Tryz.call184 9999 ?_;simp;refine CI.p (zyz ⟨zbk v.have_ v.push.adds v.push.gone,v.held,v.turn,zFrame,false⟩ f.turn f.held) Tryz.call263 9999 ?_ (ha:=by simp[zFrame]);simp[zFrame];refine⟨by decide+kernel,?_⟩;first|exact fin0 (by simp[ansE,h1',h3',h4,zFrame]) rfl|exact zaa (by simp[ansE,h1',h3',h4,zFrame])
 ·refine CI.p (zyz ⟨v.have_,v.held,v.turn,zFrame,false⟩ f.turn f.held) Tryz.call263 9999 ?_ (ha:=by simp[zFrame]);simp[zFrame];refine⟨by decide+kernel,?_⟩;first|exact fin0 (by simp[ansE,h1',h3',h4,zFrame]) rfl|exact zaa (by simp[ansE,h1',h3',h4,zFrame])
attribute [simp] Tryz.ntmps204 Tryz.results204
theorem qg8 (l:List Res)(hl:l.length≤1000000):Ct Tryz.prog 204 [lst (l.map resC)] [] [] (lst ((zhx l).map zdx)) []:=by
 refine Ct.B Tryz.func204 mixed 9999 400 ?_;simp;refine LoopI.nilOwn 3 3 139 rfl ?_;refine LoopI.U mixed (l) (fun k=>[(3,.own 64),(6,lst (l.map resC)),(7,int l.length),(8,int k.1)]) (fun k=>[(64,.grow 3 ((zhx (l.take k.1)).map zdx) 139)]) 65 [] (by constructor<;>simp) ?_;rintro⟨k,hk1⟩ B hB;refine CI.run 9999 400 rfl ?_;simp;refine sBI (fun h=>?_) (fun h=>?_)
 ·have hk:k<(l).length:=by simpa using h
  obtain⟨x,hx,hr,hm,ht,hd⟩:=inL hk;have hw:=wr (k:=k) (by omega);simp only[h];simp[hr,hw];refine CI.p (zf1 x) Tryz.call165 9999 ?_;simp;refine⟨by omega,?_⟩;refine⟨by decide+kernel,?_⟩;refine hB _ ⟨k+1,by omega⟩ [] ?_ (by simp;omega);constructor<;>simp[hw,ht,zs1]
 ·have hkl:k=(l).length:=by simp at h;omega
  subst hkl;simp only[h];simp[List.take_length,List.drop_length];first|exact fin0 (by simp) rfl|exact zaa (by simp)
end Go.Proofs.YtekckhepcdndcaaGreatDoor
namespace Go.Proofs.YtekckhepcdndcaaGreatDoor
open Go.AI Go.G
set_option maxRecDepth 20000
def awC :Res:=⟨2,⟨#[99]⟩,0,0,⟨#[101]⟩,[],[]⟩
def awZ :View:=⟨[],[],0,zFrame,false⟩
def awF :G.Frame:=⟨1,3,2,1,0,[awC],[],0,[],[]⟩
def awA :G.Frame:=⟨2,3,2,1,0,[],[],0,[],[]⟩
theorem aw2 :ansE (zl9 awZ awF) awA=0:=by decide+kernel
end Go.Proofs.YtekckhepcdndcaaGreatDoor
namespace Go.Proofs.YtekckhepcdndcaaGreatDoor
open Go.ChangeShapes Go.WideShapes Go.ChangeAt Go.RowKit Go.AI Go.G
set_option maxRecDepth 20000
theorem ownT :ownKnob Tryz.prog.godebug=none:=by kernel_rfl
theorem zs9 :laidOutB Tryz.prog=true:=by kernel_rfl
theorem zeq :shT Tryz.prog 3=.int .i64:=by kernel_rfl
theorem zmy :shT Tryz.prog 9=.str:=by kernel_rfl
theorem qpp :shT Tryz.prog 65=.sl 3:=by kernel_rfl
theorem qtp :shT Tryz.prog 135=.st [3,9]:=by kernel_rfl
theorem qpo :shT Tryz.prog 46=.sl 135:=by kernel_rfl
theorem sh_w :shT Tryz.prog 148=.st [9,3]:=by kernel_rfl
theorem qwo :shT Tryz.prog 149=.sl 148:=by kernel_rfl
theorem qpl :shT Tryz.prog 151=.st [9,9,149]:=by kernel_rfl
theorem qjy :shT Tryz.prog 144=.sl 151:=by kernel_rfl
theorem qto :shT Tryz.prog 146=.st [3,9,3,3,9,144,65]:=by kernel_rfl
theorem qpm :shT Tryz.prog 45=.sl 146:=by kernel_rfl
variable {n : Nat} {ds : List D}
theorem qcw {s:ByteArray}(h:s.size≤maxLen):nB s:=by
 have:=zbh s;have e:maxLen=9223372036854775807:=rfl;unfold G.nB;omega
theorem zrh {α:Type}{l:List α}{f:α→List D}(h:(l.map f).length≤maxLen):l.length≤9223372036854775807:=by
 have e:maxLen=9223372036854775807:=rfl;rw[List.length_map]at h;omega
theorem qu5 (h:Is Tryz.prog (n+2) 135 ds):∃k:Key,nB k.name∧ds=keyC k:=by
 obtain⟨_,_,h1,g1,rfl⟩:=zaq (zyq qtp h);obtain⟨_,_,h2,g2,rfl⟩:=zaq g1;obtain rfl:=zka g2;obtain⟨a,_,rfl⟩:=zeu zeq h1;obtain⟨b,hb,rfl⟩:=znc zmy h2;exact⟨⟨a,b⟩,qcw hb,rfl⟩
theorem is_w (h:Is Tryz.prog (n+2) 148 ds):∃k:Weight,nB k.cluster∧ds=wC k:=by
 obtain⟨_,_,h1,g1,rfl⟩:=zaq (zyq sh_w h);obtain⟨_,_,h2,g2,rfl⟩:=zaq g1;obtain rfl:=zka g2;obtain⟨a,ha,rfl⟩:=znc zmy h1;obtain⟨b,_,rfl⟩:=zeu zeq h2;exact⟨⟨a,b⟩,qcw ha,rfl⟩
theorem qrj (h:Is Tryz.prog (n+4) 151 ds):∃x:Rule,x.split.length≤9223372036854775807∧ds=zbn x:=by
 obtain⟨_,_,h1,g1,rfl⟩:=zaq (zyq qpl h);obtain⟨_,_,h2,g2,rfl⟩:=zaq g1;obtain⟨_,_,h3,g3,rfl⟩:=zaq g2;obtain rfl:=zka g3;obtain⟨a,ha,rfl⟩:=znc zmy h1;obtain⟨b,hb,rfl⟩:=znc zmy h2;obtain⟨es,he,h4,rfl⟩:=qcv qwo h3;obtain⟨l,_,rfl⟩:=zj9 (fun c=>is_w) h4;exact⟨⟨a,b,l⟩,zrh he,rfl⟩
theorem qhn (h:Is Tryz.prog (n+1) 3 ds):∃x:Int,True∧ds=intC x:=by
 obtain⟨a,_,rfl⟩:=zeu zeq h;exact⟨a,trivial,rfl⟩
theorem qu4 (h:Is Tryz.prog (n+6) 146 ds):∃r:Res,OkRes r∧ds=resC r:=by
 obtain⟨_,_,h1,g1,rfl⟩:=zaq (zyq qto h);obtain⟨_,_,h2,g2,rfl⟩:=zaq g1;obtain⟨_,_,h3,g3,rfl⟩:=zaq g2;obtain⟨_,_,h4,g4,rfl⟩:=zaq g3;obtain⟨_,_,h5,g5,rfl⟩:=zaq g4;obtain⟨_,_,h6,g6,rfl⟩:=zaq g5;obtain⟨_,_,h7,g7,rfl⟩:=zaq g6;obtain rfl:=zka g7;obtain⟨a,_,rfl⟩:=zeu zeq h1;obtain⟨b,hb,rfl⟩:=znc zmy h2;obtain⟨c,_,rfl⟩:=zeu zeq h3;obtain⟨d,_,rfl⟩:=zeu zeq h4;obtain⟨e,he,rfl⟩:=znc zmy h5;obtain⟨es,hes,h8,rfl⟩:=qcv qjy h6;obtain⟨l,hl,rfl⟩:=zj9 (fun c=>qrj) h8;obtain⟨fs,hfs,h9,rfl⟩:=qcv qpp h7;obtain⟨m,_,rfl⟩:=zj9 (fun c=>qhn) h9;exact⟨⟨a,b,c,d,e,l,m⟩,⟨qcw hb,qcw he,zrh hes,hl,zrh hfs⟩,rfl⟩
theorem qrk (h:Is Tryz.prog (n+7) 45 ds):∃l:List Res,OkRs l∧ds=[lD (l.map resC)]:=by
 obtain⟨es,he,h1,rfl⟩:=qcv qpm h;obtain⟨l,hl,rfl⟩:=zj9 (fun c=>qu4) h1;exact⟨l,⟨zrh he,hl⟩,rfl⟩
theorem qrl (h:Is Tryz.prog (n+3) 46 ds):∃l:List Key,(l.length≤9223372036854775807∧∀k∈l,nB k.name)∧ds=[lD (l.map keyC)]:=by
 obtain⟨es,he,h1,rfl⟩:=qcv qpo h;obtain⟨l,hl,rfl⟩:=zj9 (fun c=>qu5) h1;exact⟨l,⟨zrh he,hl⟩,rfl⟩
theorem is_i (h:Is Tryz.prog (n+1) 3 ds):∃x:Int,True∧ds=[iD x]:=qhn h
end Go.Proofs.YtekckhepcdndcaaGreatDoor
namespace Go.Proofs.YtekckhepcdndcaaGreatDoor
open Go.ChangeShapes Go.WideShapes Go.ChangeAt Go.RowKit Go.AI Go.G
set_option maxRecDepth 20000
variable {n : Nat} {ds : List D}
theorem qwi :aggT Tryz.prog 3=false:=by kernel_rfl
end Go.Proofs.YtekckhepcdndcaaGreatDoor
namespace Go.Proofs.YtekckhepcdndcaaGreatDoor
open Go.AI Go.G
set_option maxRecDepth 20000
attribute [simp] Tryz.ntmps291 Tryz.results291
theorem qqn (l:List Res)(hl:l.length≤1000000):Ct Tryz.prog 291 [lst (l.map resC)] [] [] (.d (.mp true [.int,.str] false (zfq (l.map Res.key)))) []:=by
 refine Ct.B Tryz.func291 mixed 9999 400 ?_;simp;refine LoopI.U mixed (l) (fun k=>[(3,.own 64),(7,lst (l.map resC)),(8,int l.length),(9,int k.1)]) (fun k=>[(64,.map true [.int,.str] false (zfq ((l.take k.1).map Res.key)))]) 65 [] (by constructor<;>simp[zg0]) ?_;rintro⟨k,hk1⟩ B hB;refine CI.run 9999 400 rfl ?_;simp[zg0];refine sBI (fun h=>?_) (fun h=>?_)
 ·have hk:k<(l).length:=by simpa using h
  obtain⟨x,hx,hr,hm,ht,hd⟩:=inL hk;have hw:=wr (k:=k) (by omega);simp only[h];simp[hr,hw];refine CI.p (zf1 x) Tryz.call165 9999 ?_;simp;refine hB _ ⟨k+1,by omega⟩ [] ?_ (by simp;omega);constructor<;>simp[hw,ht]
 ·have hkl:k=(l).length:=by simp at h;omega
  subst hkl;simp only[h];simp[List.take_length,List.drop_length];first|exact fin0 (by simp) rfl|exact zaa (by simp)
attribute [simp] Tryz.ntmps233 Tryz.results233
theorem qg4 (l:List Res)(hl:l.length≤30000):Ct Tryz.prog 233 [lst (l.map resC)] [] [] (lst ((zyd l).map keyC)) []:=by
 refine Ct.B Tryz.func233 mixed 9999 400 ?_;simp;refine CI.p (qqn l (by omega)) Tryz.call291 9999 ?_;simp;refine LoopI.nilOwn 4 2 135 rfl ?_;refine LoopI.U mixed (l) (fun k=>[(3,.d (.mp true [.int,.str] false (zfq (l.map Res.key)))),(4,.own 64),(11,lst (l.map resC)),(12,int l.length),(13,int k.1)]) (fun k=>[(64,.grow 2 ((zno (l.take k.1) l).map keyC) 135)]) 65 [] (by constructor<;>simp) ?_;rintro⟨k,hk1⟩ B hB;refine CI.run 9999 400 rfl ?_;simp;refine sBI (fun h=>?_) (fun h=>?_)
 ·have hk:k<(l).length:=by simpa using h
  obtain⟨x,hx,hr,hm,ht,hd⟩:=inL hk;have hw:=wr (k:=k) (by omega);simp only[h];simp[hr,hw];have hml:=zk9 (l.take k) l;have hr33:=zgv x;have htk:(l.take k).length≤30000:=by simp;omega
  refine CI.p (zz4 x) Tryz.call292 9999 ?_;simp;refine LoopI.U mixed ((zby x)) (fun kj=>[(3,.d (.mp true [.int,.str] false (zfq (l.map Res.key)))),(4,.own 64),(11,lst (l.map resC)),(12,int l.length),(13,int k),(18,lst ((zby x).map keyC)),(19,int (zby x).length),(20,int kj.1)]) (fun kj=>[(64,.grow 2 ((zno (l.take k) l++((zby x).take kj.1).filter (noR l)).map keyC) 135)]) 65 [] (by constructor<;>simp) ?_;rintro⟨kj,hk1j⟩ Bj hBj;refine CI.run 9999 400 rfl ?_;simp;refine sBI (fun hj=>?_) (fun hj=>?_)
  ·have hkj:kj<((zby x)).length:=by simpa using hj
   obtain⟨q,hxj,hrj,hmj,htj,hdj⟩:=inL hkj;have hwj:=wr (k:=kj) (by omega);simp only[hj];simp[hrj,hwj];have hfl:(((zby x).take kj).filter (noR l)).length≤33:=Nat.le_trans (List.length_filter_le _ _) (by simp;omega);by_cases h1:q∈l.map Res.key
   ·have hL:=zj7 h1;have h1':noR l q=false:=by simp[noR,mem_keys.1 h1]
    simp[hL];refine hBj _ ⟨kj+1,by omega⟩ [] ?_ (by simp;omega);constructor<;>simp[hwj,htj,List.filter_append,h1',hwj]
   ·have hL:=zi8 h1;have h1':noR l q=true:=by
     cases h:(getR l q).isSome
     ·simp[noR,h]
     ·exact absurd (mem_keys.2 h) h1
    simp[hL,hrj];refine⟨by omega,?_⟩;refine hBj _ ⟨kj+1,by omega⟩ [] ?_ (by simp;omega);constructor<;>simp[hwj,htj,List.filter_append,h1',hwj]
  ·have hklj:kj=((zby x)).length:=by simp at hj;omega
   subst hklj;simp only[hj];simp[List.take_length,List.drop_length,hw];refine hB _ ⟨k+1,by omega⟩ [] ?_ (by simp;omega);constructor<;>simp[hw,ht,qcq]
 ·have hkl:k=(l).length:=by simp at h;omega
  subst hkl;simp only[h];simp[List.take_length,List.drop_length];have hml:=zk9 l l;refine CI.cc [64] (zzu (zno l l) (by omega)) Tryz.call293 9999 ?_;simp;refine CI.cc [64] (zlt (zks (zno l l)) (by rw[zep];omega)) Tryz.call294 9999 ?_;simp;rw[qcp];first|exact fin0 (by simp) rfl|exact zaa (by simp)
attribute [simp] Tryz.ntmps344 Tryz.results344
theorem qu2 (r:Res)(n:Int):Ct Tryz.prog 344 [st (resC r),.d (.pro [iD n])] [] [] (bool (decide (r.kind=n))) []:=by
 refine Ct.B Tryz.func344 mixed 9999 400 ?_;simp;first|exact fin0 (by simp) rfl|exact zaa (by simp)
attribute [simp] Tryz.ntmps290 Tryz.results290
theorem qnw (l:List Res)(n:Int)(hl:l.length≤1000000):Ct Tryz.prog 290 [lst (l.map resC),int n] [] [] (lst ((l.filter fun r=>decide (r.kind=n)).map resC)) []:=by
 refine Ct.B Tryz.func290 mixed 1 400 ?_;simp;refine CI.s (tm:=[(0,lst (l.map resC)),(3,.d (.pro [iD n]))]) (mm:=[]) (nx:=65) [] [64] (by constructor<;>simp) ?_;refine CI.run 9999 400 rfl ?_;simp;refine CI.p (ztm l (.fn (.func 344) [] [.pro [iD n]]) (fun r=>decide (r.kind=n)) (fun r hr=>FnOk.clo (by exact qu2 r n) Tryz.call344 rfl rfl) hl) Tryz.call286 9999 ?_;simp;first|exact fin0 (by simp) rfl|exact zaa (by simp)
end Go.Proofs.YtekckhepcdndcaaGreatDoor
namespace Go.Proofs.YtekckhepcdndcaaGreatDoor
open Go.AI Go.G
set_option maxRecDepth 20000
attribute [simp] Tryz.ntmps232 Tryz.results232
theorem zoe (l:List Res):Ct Tryz.prog 232 [lst (l.map resC)] [] [] (int (tabE l)) []:=by
 refine Ct.B Tryz.func232 mixed 9999 400 ?_;simp;refine sBI (fun h0=>?_) (fun h0=>?_)<;>simp only[h0]<;>simp<;>(try simp only[nT,nF,dT,dF]at h0)
 ·have e:tabE l=3:=by simp only[tabE];rw[if_pos (by omega)]
  first|exact fin0 (by simp[e]) rfl|exact zaa (by simp[e])
 have h64:¬64<l.length:=by omega
 have hl:l.length≤64:=by omega
 refine LoopI.inv mixed rfl (ι:={k:Nat//k≤(l).length∧(l.take k).all (fun r=>decide (za8 r=0))=true}) (fun k=>[(0,lst (l.map resC)),(13,lst (l.map resC)),(14,int l.length),(15,int k.1)]) (fun k=>[]) 64 (fun k=>(l).length-k.1) ⟨0,by omega,by simp⟩ [] (by constructor<;>simp) ?_;rintro⟨k,hk1,hi⟩ B hB;refine CI.run 9999 400 rfl ?_;simp;refine sBI (fun h=>?_) (fun h=>?_)
 ·have hk:k<(l).length:=by simpa using h
  obtain⟨x,hx,hr,hm,ht,hd⟩:=inL hk;have hw:=wr (k:=k) (by omega);simp only[h];simp[hr,hw];refine CI.p (zm0 x) Tryz.call94 9999 ?_;simp;refine sBI (fun h1=>?_) (fun h1=>?_)<;>simp only[h1]<;>simp<;>(try simp only[nT,nF,dT,dF]at h1)
  ·have e:tabE l=za8 x:=by rw[←ztk hi hr h1];exact qea h64 (by rw[ztk hi hr h1];exact h1)
   first|exact fin0 (by simp[e]) rfl|exact zaa (by simp[e])
  ·refine hB _ ⟨k+1,by omega,by simp[ht,hi,h1]⟩ [] ?_ (by simp;omega);constructor<;>simp[hw,ht,h1]
 ·have hkl:k=(l).length:=by simp at h;omega
  subst hkl;simp only[h];simp[List.take_length,List.drop_length];rw[List.take_length]at hi;have hf:=zrn hi;clear hi hB;refine LoopI.inv mixed rfl (ι:={k:Nat//k≤(l).length∧AscR (l.take k)}) (fun k=>[(0,lst (l.map resC)),(25,lst (l.map resC)),(26,int l.length),(27,int k.1)]) (fun k=>[]) 64 (fun k=>(l).length-k.1) ⟨0,by omega,by simp⟩ [] (by constructor<;>simp) ?_;rintro⟨k,hk1,hi⟩ B hB;refine CI.run 9999 400 rfl ?_;simp;refine sBI (fun h=>?_) (fun h=>?_)
  ·have hk:k<(l).length:=by simpa using h
   obtain⟨x,hx,hr,hm,ht,hd⟩:=inL hk;have hw:=wr (k:=k) (by omega);simp only[h];simp[hr,hw];cases k with
   |zero=>
    simp;refine⟨by decide+kernel,?_⟩;refine hB _ ⟨0+1,by omega,by rw[ht];simp[AscR,Asc]⟩ [] ?_ (by simp;omega);constructor<;>simp[hw]
   |succ m=>
    have hk':m<l.length:=by omega
    have hy:l[m]? =some l[m]:=List.getElem?_eq_getElem hk';generalize l[m]=y at hy;have w0:IntKind.wrap .i64 (m:Int)=m:=zab (by omega) (by omega);have w1:IntKind.wrap .i64 ((m:Int)+1+1)=(m:Int)+1+1:=zab (by omega) (by omega);have c0:(0:Int)<(m:Int)+1:=by omega
    have c1:(0:Int)≤(m:Int)+1:=by omega
    have c2:(m:Int)<l.length:=by omega
    simp[c0,w0,c2,hy];have c3:(m:Int)+1<l.length:=by omega
    refine CI.p (zf1 y) Tryz.call165 9999 ?_ (ha:=by simp[c1,c3,hr]);simp[c1,c3,hr];refine CI.p (zf1 x) Tryz.call165 9999 ?_;simp;refine CI.p (qis y.key x.key) Tryz.call288 9999 ?_;simp;refine⟨by decide+kernel,?_⟩;refine sBI (fun h3=>?_) (fun h3=>?_)<;>simp only[h3]<;>simp[hr,hy]<;>(try simp only[nT,nF,dT,dF]at h3)
    ·have e:tabE l=2:=qeb h64 hf (fun ha=>by have:=qwb ha hy hr;omega);first|exact fin0 (by simp[e]) rfl|exact zaa (by simp[e])
    ·have h4:cmpK y.key x.key= -1:=by have:=zee y.key x.key;omega
     refine hB _ ⟨m+1+1,by omega,by rw[ht];exact qmw _ _ hi (fun z hz=>by rw[zv5 hy]at hz;cases hz;exact h4)⟩ [] ?_ (by simp;omega);constructor<;>simp[w1]
  ·have hkl:k=(l).length:=by simp at h;omega
   subst hkl;simp only[h];simp[List.take_length,List.drop_length];rw[List.take_length]at hi;clear hB;refine CI.p (qnw l 0 (by omega)) Tryz.call290 9999 ?_;simp;have hKl:(l.filter fun r=>decide (r.kind=0)).length≤64:=Nat.le_trans (List.length_filter_le _ _) hl;have hports:qf7 l=(l.filter fun r=>decide (r.kind=0)).map Res.port:=rfl;generalize(l.filter fun r=>decide (r.kind=0))=K at hKl hports;refine LoopI.inv mixed rfl (ι:={k:Nat//k≤(K).length∧((K.take k).map Res.port).Nodup}) (fun k=>[(7,.own 64),(50,lst (K.map resC)),(51,int K.length),(52,int k.1)]) (fun k=>[(64,.map false [.int] false (zj8 ((K.take k.1).map Res.port)))]) 65 (fun k=>(K).length-k.1) ⟨0,by omega,by simp⟩ [] (by constructor<;>simp[zii]) ?_;rintro⟨k,hk1,hi⟩ B hB;refine CI.run 9999 400 rfl ?_;simp[zii];refine sBI (fun h=>?_) (fun h=>?_)
   ·have hk:k<(K).length:=by simpa using h
    obtain⟨x,hx,hr,hm,ht,hd⟩:=inL hk;have hw:=wr (k:=k) (by omega);simp only[h];simp[hr,hw];by_cases hP:x.port∈(K.take k).map Res.port
    ·have hL:=qqa hP;rw[List.map_take]at hL;have e:tabE l=13:=by
      rw[zqt h64 hf ‹AscR l›,if_neg];rw[hports];intro hn;have hs:=hn.sublist ((List.take_sublist (k+1) K).map Res.port);rw[ht,List.map_append,List.map_cons,List.map_nil,zra]at hs;exact hs.2 hP
     simp[hL];first|exact fin0 (by simp[e]) rfl|exact zaa (by simp[e])
    ·have hL:=qkg hP;rw[List.map_take]at hL;simp[hL];refine hB _ ⟨k+1,by omega,by rw[ht,List.map_append,List.map_cons,List.map_nil,zra];exact⟨hi,hP⟩⟩ [] ?_ (by simp;omega);constructor<;>simp[hw,ht]
   ·have hkl:k=(K).length:=by simp at h;omega
    subst hkl;simp only[h];simp[List.take_length,List.drop_length];rw[List.take_length]at hi;have e:tabE l=0:=by rw[zqt h64 hf ‹AscR l›,hports,if_pos hi]
    first|exact fin0 (by simp[e]) rfl|exact zaa (by simp[e])
end Go.Proofs.YtekckhepcdndcaaGreatDoor
namespace Go.Proofs.YtekckhepcdndcaaGreatDoor
open Go.AI Go.G
set_option maxRecDepth 20000
attribute [simp] Tryz.ntmps81 Tryz.results81
theorem zw1 (n:Int):Ct Tryz.prog 81 [int n] [] [] (int (capN n)) []:=by
 refine Ct.B Tryz.func81 mixed 9999 400 ?_;simp;have e:=qbc n;first|exact fin0 (by simp[e]) rfl|exact zaa (by simp[e])
attribute [simp] Tryz.ntmps47 Tryz.results47
theorem zrb (n:Int):Ct Tryz.prog 47 [int n] [] [] (st (zbf (newS n))) []:=by
 refine Ct.B Tryz.func47 mixed 9999 400 ?_;simp;refine CI.p (zw1 n) Tryz.call81 9999 ?_;simp;first|exact fin0 (by simp[newS]) rfl|exact zaa (by simp[newS])
attribute [simp] Tryz.ntmps45 Tryz.results45
theorem zxk (s:Store):Ct Tryz.prog 45 [st (zbf s)] [] [] (st (zbf (za3 s))) []:=by
 refine Ct.B Tryz.func45 mixed 9999 400 ?_;simp;refine CI.p (zw1 s.cap) Tryz.call81 9999 ?_;simp;refine sBI (fun h1=>?_) (fun h1=>?_)<;>simp only[h1]<;>simp<;>(try simp only[nT,nF,dT,dF]at h1)
 ·have h0:s.hist=[]:=by first|exact h1|exact List.eq_nil_of_length_eq_zero (by omega)
  refine CI.p (zrb (capN s.cap)) Tryz.call47 9999 ?_;simp;rw[qd5 h0];first|exact fin0 (by simp[newS,zlw]) rfl|exact zaa (by simp[newS,zlw])
 ·have h0:¬s.hist=[]:=by first|exact h1|exact fun e=>h1 (by rw[e];rfl)
  rw[zqp h0];first|exact fin0 (by simp) rfl|exact zaa (by simp)
attribute [simp] Tryz.ntmps395 Tryz.results395
theorem at_p (s:Store)(i:Int):Ct Tryz.prog 395 [st (zbf s),int i] [] [] (atA s i) []:=by
 refine Ct.B Tryz.func395 mixed 9999 400 ?_;simp;refine CI.p (zxk s) Tryz.call45 9999 ?_;simp;refine sGI (fun h1=>?_) (fun h1=>?_)<;>simp only[h1]<;>simp<;>(try simp only[nT,nF,dT,dF]at h1)
 ·have e:=qv7 (s:=s) h1;first|exact fin0 (by simp[e]) rfl|exact zaa (by simp[e])
 refine sBI (fun h2=>?_) (fun h2=>?_)<;>simp only[h2]<;>simp<;>(try simp only[nT,nF,dT,dF]at h2)
 ·have e:=qwa (s:=s) (i:=i) (by omega);first|exact fin0 (by simp[e]) rfl|exact zaa (by simp[e])
 ·obtain⟨l,⟨hh,e3⟩,e1,e⟩:=qv8 (s:=s) h1 (by omega);have c1:0≤i:=by omega
  have c2:i<(za3 s).hist.length:=by omega
  simp[e1,c1,c2,e3];first|exact fin0 (by simp[e]) rfl|exact zaa (by simp[e])
attribute [simp] Tryz.ntmps369 Tryz.results369
theorem qvm (s:Store)(k_:Key)(v:Int)(hs:OkStore s):Ct Tryz.prog 369 [st (zbf s),st (keyC k_),int v] [] [] (qxa s k_ v) []:=by
 refine Ct.B Tryz.func369 mixed 9999 400 ?_;simp;refine CI.p (at_p s v) Tryz.call395 9999 ?_;simp;refine CI.p (qrw ((atS s v).getD []) k_ (qw1 hs v).len) Tryz.call229 9999 ?_;simp;cases hg:getR ((atS s v).getD []) k_ with
 |none=>
  have e:=qc6 hg;simp;first|exact fin0 (by simp[e,zRes]) rfl|exact zaa (by simp[e,zRes])
 |some r=>
  have e:=qc5 hg;simp;refine sBI (fun h1=>?_) (fun h1=>?_)<;>simp only[h1]<;>simp<;>(try simp only[nT,nF,dT,dF]at h1)
  ·rw[if_pos h1]at e;first|exact fin0 (by simp[e]) rfl|exact zaa (by simp[e])
  ·rw[if_neg h1]at e;first|exact fin0 (by simp[e,zRes]) rfl|exact zaa (by simp[e,zRes])
attribute [simp] Tryz.ntmps368 Tryz.results368
theorem qxb (s:Store)(m:G.Mark)(hs:OkStore s):Ct Tryz.prog 368 [st (zdx m),.d (.pro (zbf s))] [] [] (st (resC (ofM s m))) []:=by
 refine Ct.B Tryz.func368 mixed 9999 400 ?_;simp;refine CI.p (qvm s m.k m.ver hs) Tryz.call369 9999 ?_;simp;cases hg:zpr s m.k m.ver with
 |none=>
  have e:ofM s m=zqi m:=by simp[ofM,hg]
  simp;first|exact fin0 (by simp[e,zqi]) rfl|exact zaa (by simp[e,zqi])
 |some r=>
  have e:ofM s m=r:=by simp[ofM,hg]
  simp;first|exact fin0 (by simp[e]) rfl|exact zaa (by simp[e])
attribute [simp] Tryz.ntmps322 Tryz.results322
theorem ql3 (s:Store):Ct Tryz.prog 322 [st (zbf s)] [] [] (.d (.fn (.func 368) [] [.pro (zbf s)])) []:=by
 refine Ct.B Tryz.func322 mixed 9999 400 ?_;simp;first|exact fin0 (by simp) rfl|exact zaa (by simp)
attribute [simp] Tryz.ntmps260 Tryz.results260
theorem qre (s:Store)(l:List G.Mark)(hs:OkStore s)(hl:l.length≤1000):Ct Tryz.prog 260 [st (zbf s),lst (l.map zdx)] [] [] (lst ((zfs s l).map resC)) []:=by
 refine Ct.B Tryz.func260 mixed 9999 400 ?_;simp;refine CI.p (ql3 s) Tryz.call322 9999 ?_;simp;refine LoopI.U mixed (l) (fun k=>[(5,.d (.fn (.func 368) [] [.pro (zbf s)])),(6,lst ((zfs s (l.take k.1)).map resC)),(11,lst (l.map zdx)),(12,int l.length),(13,int k.1)]) (fun k=>[]) 64 [] (by constructor<;>simp[zv7]) ?_;rintro⟨k,hk1⟩ B hB;refine CI.run 9999 400 rfl ?_;simp[zv7];refine sBI (fun h=>?_) (fun h=>?_)
 ·have hk:k<(l).length:=by simpa using h
  obtain⟨x,hx,hr,hm,ht,hd⟩:=inL hk;have hw:=wr (k:=k) (by omega);simp only[h];simp[hr,hw];have hlen:=zpk s (l.take k);have htk:(l.take k).length≤1000:=by simp;omega
  refine CI.ff (FnOk.clo (args:=[st (zdx x)]) (by exact qxb s x hs) Tryz.call368 rfl rfl) rfl rfl rfl 9999 ?_;simp;refine CI.p (qm9 (zfs s (l.take k)) (ofM s x) (by omega)) Tryz.call231 9999 ?_;simp;refine hB _ ⟨k+1,by omega⟩ [] ?_ (by simp;omega);constructor<;>simp[hw,ht,qcu]
 ·have hkl:k=(l).length:=by simp at h;omega
  subst hkl;simp only[h];simp[List.take_length,List.drop_length];first|exact fin0 (by simp) rfl|exact zaa (by simp)
end Go.Proofs.YtekckhepcdndcaaGreatDoor
