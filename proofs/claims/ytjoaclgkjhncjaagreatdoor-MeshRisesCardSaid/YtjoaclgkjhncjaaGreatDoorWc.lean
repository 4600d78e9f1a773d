/-
  LAYERS 3, 5, 6, 14: the walks of references and views, of configurations, of stores; what the laws' arguments are.
-/
import Derived.Test.YtjoaclgkjhncjaaGreatDoorWb
import Derived.Test.YtjoaclgkjhncjaaGreatDoorPl
import Derived.Test.YtjoaclgkjhncjaaGreatDoorTy
import Derived.Test.YtjoaclgkjhncjaaGreatDoorFc
set_option linter.unusedSimpArgs false
set_option linter.unusedVariables false
namespace Go.Proofs.YtjoaclgkjhncjaaGreatDoor
open Go.AI Go.G
set_option maxRecDepth 20000
attribute [simp] Tryz.ntmps52 Tryz.results52
theorem zl6 (l:List Key)(hl:l.length≤1000000):Ct Tryz.prog 52 [.own 0] [] [(0,.grow 2 (l.map keyC) 26)] (lst ((zgf l).map keyC)) []:=by
 refine Ct.B Tryz.func52 mixed 9999 400 ?_;simp;refine sBI (fun h0=>?_) (fun h0=>?_)<;>simp only[h0]<;>simp<;>(try simp only[nT,nF,dT,dF]at h0)
 ·have e:zgf l=l:=qep h0;first| (refine⟨[],?_,?_,?_,?_,?_,?_,?_⟩<;>simp[nmF,inB,e];done)| (refine⟨by decide+kernel,?_⟩;refine⟨[],?_,?_,?_,?_,?_,?_,?_⟩<;>simp[nmF,inB,e])
 refine LoopI.inv mixed rfl (ι:={k:Nat//k+1≤l.length∧zgf (l.take (k+1))=l.take (k+1)}) (fun k=>[(0,.own 0),(3,int ((k.1:Int)+1))]) (fun k=>[(0,.grow 2 (l.map keyC) 26)]) 64 (fun k=>l.length-k.1) ⟨0,by omega,qeq l⟩ [] (by constructor<;>simp) ?_;rintro⟨m,hk1,hi⟩ B hB;refine CI.run 9999 400 rfl ?_;simp;refine sBI (fun h=>?_) (fun h=>?_)<;>simp only[h]<;>simp<;>(try simp only[nT,nF,dT,dF]at h)
 ·have hk:m+1<l.length:=by omega
  have hk':m<l.length:=by omega
  have hv:l[m+1]? =some l[m+1]:=List.getElem?_eq_getElem hk;have hq:l[m]? =some l[m]:=List.getElem?_eq_getElem hk';have w0:IntKind.wrap .i64 (m:Int)=m:=zab (by omega) (by omega);have w1:IntKind.wrap .i64 ((m:Int)+1+1)=(m:Int)+1+1:=zab (by omega) (by omega);have c1:(0:Int)≤(m:Int)+1:=by omega
  have c2:(m:Int)<l.length:=by omega
  generalize hvu:l[m+1]=u at hv;generalize hqu:l[m]=q0 at hq;have hs:=zl7 (by omega) (show l[m+1-1]? =_ from hq) hv;simp[h,hvu,hqu,c1,c2,hv,hq,w0];rw[zsa];refine⟨by decide+kernel,?_⟩;refine sBI (fun h2=>?_) (fun h2=>?_)<;>simp only[h2]<;>simp[hv,hq]<;>(try simp only[nT,nF,dT,dF]at h2)
  ·refine⟨by omega,?_⟩;rw[h2]at hv;have d0:CompSt l (m+2+0) (m+1) l:=CompSt.start (by omega) hi hq hv;clear hv hq hs w0 w1 c1 c2 hi hB;refine LoopI.inv mixed rfl (ι:={q:Nat×Nat×List Key//CompSt l (m+2+q.1) q.2.1 q.2.2}) (fun k=>[(0,.own 0),(3,int k.1.2.1),(4,.sl 0 2 (m+1) (l.length-(m+1))),(5,int ((k.1.1:Int)+1))]) (fun k=>[(0,.grow 2 (k.1.2.2.map keyC) 26)]) 64 (fun k=>l.length-k.1.1) ⟨(0,m+1,l),d0⟩ [] (by constructor<;>simp) ?_;rintro⟨⟨d,i,cur⟩,hd⟩ B hB;have hlen:=hd.len;have hlt:=hd.lt;have hle:=hd.le;simp only at hlen hlt hle;have w1:IntKind.wrap .i64 ((d:Int)+1+1)=d+1+1:=zab (by omega) (by omega);have w2:IntKind.wrap .i64 ((i:Int)+1)=i+1:=zab (by omega) (by omega);have w0:IntKind.wrap .i64 (d:Int)=d:=zab (by omega) (by omega);refine CI.run 9999 400 rfl ?_;simp[hlen];refine sBI (fun h3=>?_) (fun h3=>?_)<;>simp only[h3]<;>simp<;>(try simp only[nT,nF,dT,dF]at h3)
   ·have hj:m+1+(d+1)<l.length:=by omega
    have hj':m+1+d<l.length:=by omega
    have hv:l[m+2+d]? =some l[m+1+(d+1)]:=by rw[←List.getElem?_eq_getElem hj];congr 1;omega
    have hq:l[m+2+d-1]? =some l[m+1+d]:=by rw[←List.getElem?_eq_getElem hj'];congr 1;omega
    generalize l[m+1+(d+1)]=v at hv;generalize l[m+1+d]=q at hq;have hg:cur[m+1+(d+1)]? =some v:=by have:=hd.get hv;rwa[show m+2+d=m+1+(d+1) by omega]at this
    have hg':cur[m+1+d]? =some q:=by have:=hd.get' hq;rwa[show m+2+d-1=m+1+d by omega]at this
    have c1:(0:Int)≤(d:Int)+1:=by omega
    have c2:(d:Int)<((l.length-(m+1):Nat):Int):=by omega
    simp[h3,c1,c2,w0,hg,hg'];rw[qo5];refine⟨by decide+kernel,?_⟩;have hic:i<cur.length:=by omega
    refine sBI (fun h4=>?_) (fun h4=>?_)<;>simp only[h4]<;>simp[h3,c1,c2,hg,hg',hic]<;>(try simp only[nT,nF,dT,dF]at h4)
    ·refine hB _ ⟨(d+1,i+1,cur.set i v),by exact hd.keep hv hq (fun e=>h4 e.symm)⟩ [] ?_ (by simp;omega);constructor<;>simp[w1,w2,List.map_set]
    ·rw[←h4]at hq;refine hB _ ⟨(d+1,i,cur),by exact hd.same hv hq⟩ [] ?_ (by simp;omega);constructor<;>simp[w1]
   ·have hj:m+2+d=l.length:=by omega
    simp only at hd;rw[hj]at hd;have e:cur.take i=zgf l:=hd.done;have e2:List.take i (List.map keyC cur)=List.map keyC (zgf l):=by rw[←List.map_take,e]
    have e3:(zgf l).length=i:=by rw[←e,List.length_take];omega
    refine⟨by omega,by omega,by omega,?_⟩;rw[e2];first| (refine⟨[],?_,?_,?_,?_,?_,?_,?_⟩<;>simp[nmF,inB,e3,List.take_append,show i≤i+(l.length-i+(l.length-(i+(l.length-i))))from by omega];done)| (refine⟨by decide+kernel,?_⟩;refine⟨[],?_,?_,?_,?_,?_,?_,?_⟩<;>simp[nmF,inB,e3,List.take_append,show i≤i+(l.length-i+(l.length-(i+(l.length-i))))from by omega])
  ·rw[if_neg (fun e=>h2 e.symm)]at hs;refine hB _ ⟨m+1,by omega,by rw[hs,hi,List.take_add_one (i:=m+1),hv];rfl⟩ [] ?_ (by simp;omega);constructor<;>simp[w1]
 ·have e:zgf l=l:=by
   have hl2:m+1=l.length:=by omega
   rw[hl2,List.take_length]at hi;exact hi
  first| (refine⟨[],?_,?_,?_,?_,?_,?_,?_⟩<;>simp[nmF,inB,e];done)| (refine⟨by decide+kernel,?_⟩;refine⟨[],?_,?_,?_,?_,?_,?_,?_⟩<;>simp[nmF,inB,e])
end Go.Proofs.YtjoaclgkjhncjaaGreatDoor
namespace Go.Proofs.YtjoaclgkjhncjaaGreatDoor
open Go.AI Go.G Go.Sort Go.Proofs Go.RowKit Go.Shelf
set_option maxRecDepth 20000
def keyV (k:Key):List Value:=[.int .i64 k.kind,.string k.name]
instance keyInh :Inhabited Key:=⟨⟨0,.empty⟩⟩
theorem qay (l:List Key)(hl:l.length<4611686018427387904):Ct Tryz.prog 50 [.own 0,.d (fnD 51)] [] [(0,.grow 2 (l.map keyC) 26)] (.d (.v (.tuple #[]))) [(0,.grow 2 ((zk2 l).map keyC) 26)]:=
 Ct.sort (enc:=keyV) (k:=2) (cf:=cmpK) (sortL:=zk2) (by decide) (fun _=>rfl) (fun x v hv=>by simp[keyV]at hv;rcases hv with rfl|rfl<;>rfl) zex
  (fun p cap fv w=>AnyF.slices_SortFunc_none {Tryz.sortKeys with} p cap fv w)
  (fun blk off cap d w hc hH hb hs=>AnyQ.slices_SortFunc_total Tryz.sortKeys 2 (fun w=>by kernel_rfl) (fun w=>by kernel_rfl) keyV (fun _=>rfl) (fun x v hv=>by simp[keyV]at hv;rcases hv with rfl|rfl<;>rfl) cmpK swoK 51 #[] blk off cap d w Tryz.call51 hc hH hb hs (fun x y h1 h2=>qsh h1 h2))
  (fun a b=>qj4 a b) hl
end Go.Proofs.YtjoaclgkjhncjaaGreatDoor
namespace Go.Proofs.YtjoaclgkjhncjaaGreatDoor
open Go.AI Go.G
set_option maxRecDepth 20000
attribute [simp] Tryz.ntmps91 Tryz.results91
theorem qbc (r:Res):Ct Tryz.prog 91 [st (resC r)] [] [] (lst ((zbs r).map keyC)) []:=by
 refine Ct.B Tryz.func91 mixed 9999 400 ?_;simp;refine CI.p (znf r) Tryz.call135 9999 ?_;simp;refine sBI (fun h1=>?_) (fun h1=>?_)<;>simp only[h1]<;>simp<;>(try simp only[nT,nF,dT,dF]at h1)
 ·first|exact fin0 (by simp[zbs,h1]) rfl|exact zaa (by simp[zbs,h1])
 obtain⟨hk0,hn,hs,hsh,hnm,hsg⟩:=zg8 h1;have hk:=rng_yes.1 hk0;have hb:=znc hs;have hwk:IntKind.wrap .i64 (r.kind+1)=r.kind+1:=zab (by omega) (by omega);refine sBI (fun h2=>?_) (fun h2=>?_)<;>simp only[h2]<;>simp<;>(try simp only[nT,nF,dT,dF]at h2)
 ·have hto:¬bs r.to=[]:=fun e=>h2 (zsq e);have hr0:=qkv hsh hto;have h0:outP r 0=[⟨r.kind+1,r.to⟩]:=by rw[zwj,if_neg hto]
  have e:=zwk h1;rw[hr0]at e;simp only[List.length_nil,h0]at e;simp[hr0,hwk];refine LoopI.unroll mixed (Plain.retC _ _ _ _ _) rfl ?_;refine CI.run 9999 400 rfl ?_;simp;refine CI.cc [1152] (qay [⟨r.kind+1,r.to⟩] (by simp)) Tryz.call50 9999 ?_;simp;refine CI.cc [1152] (zl6 (zk2 [⟨r.kind+1,r.to⟩]) (by rw[zex];simp)) Tryz.call52 9999 ?_;simp;rw[e];first|exact fin0 (by simp) rfl|exact zaa (by simp)
 ·have hto:bs r.to=[]:=by
   have:r.to=⟨#[]⟩:=by simpa using h2
   rw[this];rfl
  have h0:outP r 0=[]:=by rw[zwj,if_pos hto]
  refine LoopI.nilOwn 3 2 26 rfl ?_;refine LoopI.U mixed (r.rules) (fun k=>[(1,.ptr 64 0),(3,.own 65),(24,lst (r.rules.map zbk)),(25,int r.rules.length),(26,int k.1)]) (fun k=>[(64,.cells ((resC r).map .d) 67),(65,.grow 2 ((outP r k.1).map keyC) 26)]) 66 [] (by constructor<;>simp[h0]) ?_;rintro⟨k,hk1⟩ B hB;refine CI.run 9999 400 rfl ?_;simp[h0];refine sBI (fun h=>?_) (fun h=>?_)
  ·have hk:k<(r.rules).length:=by simpa using h
   obtain⟨x,hx,hr,hm,ht,hd⟩:=inL hk;have hw:=wr (k:=k) (by omega);simp only[h];simp[hr,hw];have h7:=hb.2.2 x hm;refine LoopI.U mixed (x.split) (fun kj=>[(1,.ptr 64 0),(3,.own 65),(24,lst (r.rules.map zbk)),(25,int r.rules.length),(26,int k),(31,lst (x.split.map wC)),(32,int x.split.length),(33,int kj.1)]) (fun kj=>[(64,.cells ((resC r).map .d) 67),(65,.grow 2 ((outP r k++((x.split.take kj.1).filter fun w=>decide (0<w.w)).map toKey).map keyC) 26)]) 66 [] (by constructor<;>simp[hr]) ?_;rintro⟨kj,hk1j⟩ Bj hBj;refine CI.run 9999 400 rfl ?_;simp[hr];refine sBI (fun hj=>?_) (fun hj=>?_)
   ·have hkj:kj<(x.split).length:=by simpa using hj
    obtain⟨w,hxj,hrj,hmj,htj,hdj⟩:=inL hkj;have hwj:=wr (k:=kj) (by omega);simp only[hj];simp[hrj,hwj,hr];have hlen:=qbj k hb.1 hb.2.2;have h8:((x.split.take kj).filter fun w=>decide (0<w.w)).length≤4:=Nat.le_trans (List.length_filter_le _ _) (Nat.le_trans (by simp;omega) h7);refine sBI (fun h4=>?_) (fun h4=>?_)<;>simp only[h4]<;>simp[hr,hrj]<;>(try simp only[nT,nF,dT,dF]at h4)
    ·refine⟨by omega,?_⟩;refine hBj _ ⟨kj+1,by omega⟩ [] ?_ (by simp;omega);constructor<;>simp[hwj,htj,List.filter_append,h4,hwj]
    ·refine hBj _ ⟨kj+1,by omega⟩ [] ?_ (by simp;omega);constructor<;>simp[hwj,htj,List.filter_append,h4,hwj]
   ·have hklj:kj=(x.split).length:=by simp at hj;omega
    subst hklj;simp only[hj];simp[List.take_length,List.drop_length,hw];refine hB _ ⟨k+1,by omega⟩ [] ?_ (by simp;omega);constructor<;>simp[hw,ht,qhq ht,List.map_append]
  ·have hkl:k=(r.rules).length:=by simp at h;omega
   subst hkl;simp only[h];simp[List.take_length,List.drop_length];have hlen:=qbj r.rules.length hb.1 hb.2.2;refine CI.cc [65] (qay (outP r r.rules.length) (by omega)) Tryz.call50 9999 ?_;simp;refine CI.cc [65] (zl6 (zk2 (outP r r.rules.length)) (by rw[zex];omega)) Tryz.call52 9999 ?_;simp;rw[zwk h1];first|exact fin0 (by simp) rfl|exact zaa (by simp)
attribute [simp] Tryz.ntmps170 Tryz.results170
theorem qlt (l:List Res)(k_:Key)(hl:l.length≤1000000):Ct Tryz.prog 170 [lst (l.map resC),st (keyC k_)] [] [] (lst ((zmu l k_).map keyC)) []:=by
 refine Ct.B Tryz.func170 mixed 9999 400 ?_;simp;refine LoopI.nilOwn 5 2 26 rfl ?_;refine LoopI.U mixed (l) (fun k=>[(3,.ptr 64 0),(5,.own 65),(8,lst (l.map resC)),(9,int l.length),(10,int k.1)]) (fun k=>[(64,.cells ((keyC k_).map .d) 26),(65,.grow 2 ((zmu (l.take k.1) k_).map keyC) 26)]) 66 [] (by constructor<;>simp) ?_;rintro⟨k,hk1⟩ B hB;refine CI.run 9999 400 rfl ?_;simp;refine sBI (fun h=>?_) (fun h=>?_)
 ·have hk:k<(l).length:=by simpa using h
  obtain⟨x,hx,hr,hm,ht,hd⟩:=inL hk;have hw:=wr (k:=k) (by omega);simp only[h];simp[hr,hw];have hlen:((l.take k).filter fun r=>decide (k_∈zbs r)).length≤1000000:=Nat.le_trans (List.length_filter_le _ _) (by simp;omega);refine CI.p (qbc x) Tryz.call91 9999 ?_;simp;refine CI.p (qo7 (zbs x) k_ (qra x)) Tryz.call169 9999 ?_;simp;refine⟨by decide+kernel,?_⟩;refine sBI (fun h1=>?_) (fun h1=>?_)<;>simp only[h1]<;>simp[hr]<;>(try simp only[nT,nF,dT,dF]at h1)
  ·refine CI.p (zfr x) Tryz.call46 9999 ?_;simp;refine⟨by omega,?_⟩;refine hB _ ⟨k+1,by omega⟩ [] ?_ (by simp;omega);constructor<;>simp[hw,ht,List.filter_append,h1]
  ·refine hB _ ⟨k+1,by omega⟩ [] ?_ (by simp;omega);constructor<;>simp[hw,ht,List.filter_append,h1]
 ·have hkl:k=(l).length:=by simp at h;omega
  subst hkl;simp only[h];simp[List.take_length,List.drop_length];first|exact fin0 (by simp) rfl|exact zaa (by simp)
end Go.Proofs.YtjoaclgkjhncjaaGreatDoor
namespace Go.Proofs.YtjoaclgkjhncjaaGreatDoor
open Go.AI Go.G
set_option maxRecDepth 20000
attribute [simp] Tryz.ntmps226 Tryz.results226
theorem qon (v:View)(f:G.Frame):Ct Tryz.prog 226 [st (zvb v),st (zam f)] [] [] (st (zvb (zn5 v f))) []:=by
 refine Ct.B Tryz.func226 mixed 9999 400 ?_;simp;first|exact fin0 (by simp[zn5]) rfl|exact zaa (by simp[zn5])
attribute [simp] Tryz.ntmps368 Tryz.results368
theorem of_p (f:G.Frame):Ct Tryz.prog 368 [st (zam f)] [] [] (.agg [int f.epoch,int f.kind,int f.nonce]) []:=by
 refine Ct.B Tryz.func368 mixed 9999 400 ?_;simp;first|exact fin0 (by simp) rfl|exact zaa (by simp)
attribute [simp] Tryz.ntmps314 Tryz.results314
theorem zz6 (v:View)(t:Int)(h:List Key):Ct Tryz.prog 314 [st (zvb v),int t,lst (h.map keyC)] [] [] (st (zvb (zai v t h))) []:=by
 refine Ct.B Tryz.func314 mixed 9999 400 ?_;simp;refine sBI (fun h1=>?_) (fun h1=>?_)<;>simp only[h1]<;>simp<;>(try simp only[nT,nF,dT,dF]at h1)
 ·first|exact fin0 (by simp[zai,h1]) rfl|exact zaa (by simp[zai,h1])
 ·first|exact fin0 (by simp[zai,h1]) rfl|exact zaa (by simp[zai,h1])
attribute [simp] Tryz.ntmps313 Tryz.results313
theorem qe5 (v:View)(f:G.Frame)(hl:v.have_.length+v.push.adds.length≤1000000)(hg:v.push.gone.length≤9223372036854775807):Ct Tryz.prog 313 [st (zvb v),st (zam f)] [] [] (.tup [st (zvb (ansV v f)),int (ansE v f)]) []:=by
 refine Ct.B Tryz.func313 mixed 9999 400 ?_;simp;refine sBI (fun h1=>?_) (fun h1=>?_)<;>simp only[h1]<;>simp
 ·have h1':v.open_=false:=by simpa using h1
  first|exact fin0 (by simp[ansV,ansE,h1']) rfl|exact zaa (by simp[ansV,ansE,h1'])
 have h1':v.open_=true:=by simpa using h1
 refine sGI (fun h2=>?_) (fun h2=>?_)<;>simp only[h2]<;>simp<;>(try simp only[nT,nF,dT,dF]at h2)
 ·refine⟨by decide+kernel,?_⟩;first|exact fin0 (by simp[ansV,ansE,fitF,h1',h2]) rfl|exact zaa (by simp[ansV,ansE,fitF,h1',h2])
 refine CI.p (of_p f) Tryz.call368 9999 ?_;simp;refine CI.p (of_p v.push) Tryz.call368 9999 ?_;simp;refine⟨by decide+kernel,?_⟩;rw[qnc h2];refine sBI (fun h3=>?_) (fun h3=>?_)<;>simp only[h3]<;>simp
 ·have h3':fitF v f=false:=by simpa using h3
  first|exact fin0 (by simp[ansV,ansE,h1',h3']) rfl|exact zaa (by simp[ansV,ansE,h1',h3'])
 have h3':fitF v f=true:=by simpa using h3
 rw[zqv h1' h3'];refine sBI (fun h4=>?_) (fun h4=>?_)<;>simp only[h4]<;>simp<;>(try simp only[nT,nF,dT,dF]at h4)
 ·refine CI.p (zts v.have_ v.push.adds v.push.gone hl hg) Tryz.call222 9999 ?_;simp;refine CI.p (zz6 ⟨zak v.have_ v.push.adds v.push.gone,v.held,v.turn,zFrame,false⟩ f.turn f.held) Tryz.call314 9999 ?_ (ha:=by simp[zFrame]);simp[zFrame];refine⟨by decide+kernel,?_⟩;first|exact fin0 (by simp[ansE,h1',h3',h4,zFrame]) rfl|exact zaa (by simp[ansE,h1',h3',h4,zFrame])
 ·refine CI.p (zz6 ⟨v.have_,v.held,v.turn,zFrame,false⟩ f.turn f.held) Tryz.call314 9999 ?_ (ha:=by simp[zFrame]);simp[zFrame];refine⟨by decide+kernel,?_⟩;first|exact fin0 (by simp[ansE,h1',h3',h4,zFrame]) rfl|exact zaa (by simp[ansE,h1',h3',h4,zFrame])
attribute [simp] Tryz.ntmps216 Tryz.results216
theorem qik (l:List Res)(hl:l.length≤1000000):Ct Tryz.prog 216 [lst (l.map resC)] [] [] (lst ((ze0 l).map zfq)) []:=by
 refine Ct.B Tryz.func216 mixed 9999 400 ?_;simp;refine LoopI.nilOwn 3 3 362 rfl ?_;refine LoopI.U mixed (l) (fun k=>[(3,.own 64),(6,lst (l.map resC)),(7,int l.length),(8,int k.1)]) (fun k=>[(64,.grow 3 ((ze0 (l.take k.1)).map zfq) 362)]) 65 [] (by constructor<;>simp) ?_;rintro⟨k,hk1⟩ B hB;refine CI.run 9999 400 rfl ?_;simp;refine sBI (fun h=>?_) (fun h=>?_)
 ·have hk:k<(l).length:=by simpa using h
  obtain⟨x,hx,hr,hm,ht,hd⟩:=inL hk;have hw:=wr (k:=k) (by omega);simp only[h];simp[hr,hw];refine CI.p (zfr x) Tryz.call46 9999 ?_;simp;refine⟨by omega,?_⟩;refine⟨by decide+kernel,?_⟩;refine hB _ ⟨k+1,by omega⟩ [] ?_ (by simp;omega);constructor<;>simp[hw,ht,zt6]
 ·have hkl:k=(l).length:=by simp at h;omega
  subst hkl;simp only[h];simp[List.take_length,List.drop_length];first|exact fin0 (by simp) rfl|exact zaa (by simp)
end Go.Proofs.YtjoaclgkjhncjaaGreatDoor
namespace Go.Proofs.YtjoaclgkjhncjaaGreatDoor
open Go.ChangeShapes Go.WideShapes Go.ChangeAt Go.RowKit Go.AI Go.G
set_option maxRecDepth 20000
theorem ownT :ownKnob Tryz.prog.godebug=none:=by kernel_rfl
theorem zou :laidOutB Tryz.prog=true:=by kernel_rfl
theorem zey :shT Tryz.prog 3=.int .i64:=by kernel_rfl
theorem znd :shT Tryz.prog 9=.str:=by kernel_rfl
theorem qqx :shT Tryz.prog 38=.sl 3:=by kernel_rfl
theorem qux :shT Tryz.prog 26=.st [3,9]:=by kernel_rfl
theorem qqw :shT Tryz.prog 39=.sl 26:=by kernel_rfl
theorem sh_w :shT Tryz.prog 157=.st [9,3]:=by kernel_rfl
theorem qxt :shT Tryz.prog 158=.sl 157:=by kernel_rfl
theorem qqt :shT Tryz.prog 160=.st [9,9,158]:=by kernel_rfl
theorem qle :shT Tryz.prog 65=.sl 160:=by kernel_rfl
theorem quw :shT Tryz.prog 67=.st [3,9,3,3,9,65,38]:=by kernel_rfl
theorem qqu :shT Tryz.prog 43=.sl 67:=by kernel_rfl
variable {n : Nat} {ds : List D}
theorem qea {s:ByteArray}(h:s.size≤maxLen):nB s:=by
 have:=zbq s;have e:maxLen=9223372036854775807:=rfl;unfold G.nB;omega
theorem zsb {α:Type}{l:List α}{f:α→List D}(h:(l.map f).length≤maxLen):l.length≤9223372036854775807:=by
 have e:maxLen=9223372036854775807:=rfl;rw[List.length_map]at h;omega
theorem qo6 (h:Is Tryz.prog (n+2) 26 ds):∃k:Key,nB k.name∧ds=keyC k:=by
 obtain⟨_,_,h1,g1,rfl⟩:=zas (zzy qux h);obtain⟨_,_,h2,g2,rfl⟩:=zas g1;obtain rfl:=zko g2;obtain⟨a,_,rfl⟩:=ze2 zey h1;obtain⟨b,hb,rfl⟩:=zns znd h2;exact⟨⟨a,b⟩,qea hb,rfl⟩
theorem is_w (h:Is Tryz.prog (n+2) 157 ds):∃k:Weight,nB k.cluster∧ds=wC k:=by
 obtain⟨_,_,h1,g1,rfl⟩:=zas (zzy sh_w h);obtain⟨_,_,h2,g2,rfl⟩:=zas g1;obtain rfl:=zko g2;obtain⟨a,ha,rfl⟩:=zns znd h1;obtain⟨b,_,rfl⟩:=ze2 zey h2;exact⟨⟨a,b⟩,qea ha,rfl⟩
theorem qsq (h:Is Tryz.prog (n+4) 160 ds):∃x:Rule,x.split.length≤9223372036854775807∧ds=zbk x:=by
 obtain⟨_,_,h1,g1,rfl⟩:=zas (zzy qqt h);obtain⟨_,_,h2,g2,rfl⟩:=zas g1;obtain⟨_,_,h3,g3,rfl⟩:=zas g2;obtain rfl:=zko g3;obtain⟨a,ha,rfl⟩:=zns znd h1;obtain⟨b,hb,rfl⟩:=zns znd h2;obtain⟨es,he,h4,rfl⟩:=qd9 qxt h3;obtain⟨l,_,rfl⟩:=zkn (fun c=>is_w) h4;exact⟨⟨a,b,l⟩,zsb he,rfl⟩
theorem qiz (h:Is Tryz.prog (n+1) 3 ds):∃x:Int,True∧ds=intC x:=by
 obtain⟨a,_,rfl⟩:=ze2 zey h;exact⟨a,trivial,rfl⟩
theorem qwd (h:Is Tryz.prog (n+6) 67 ds):∃r:Res,OkRes r∧ds=resC r:=by
 obtain⟨_,_,h1,g1,rfl⟩:=zas (zzy quw h);obtain⟨_,_,h2,g2,rfl⟩:=zas g1;obtain⟨_,_,h3,g3,rfl⟩:=zas g2;obtain⟨_,_,h4,g4,rfl⟩:=zas g3;obtain⟨_,_,h5,g5,rfl⟩:=zas g4;obtain⟨_,_,h6,g6,rfl⟩:=zas g5;obtain⟨_,_,h7,g7,rfl⟩:=zas g6;obtain rfl:=zko g7;obtain⟨a,_,rfl⟩:=ze2 zey h1;obtain⟨b,hb,rfl⟩:=zns znd h2;obtain⟨c,_,rfl⟩:=ze2 zey h3;obtain⟨d,_,rfl⟩:=ze2 zey h4;obtain⟨e,he,rfl⟩:=zns znd h5;obtain⟨es,hes,h8,rfl⟩:=qd9 qle h6;obtain⟨l,hl,rfl⟩:=zkn (fun c=>qsq) h8;obtain⟨fs,hfs,h9,rfl⟩:=qd9 qqx h7;obtain⟨m,_,rfl⟩:=zkn (fun c=>qiz) h9;exact⟨⟨a,b,c,d,e,l,m⟩,⟨qea hb,qea he,zsb hes,hl,zsb hfs⟩,rfl⟩
theorem qsr (h:Is Tryz.prog (n+7) 43 ds):∃l:List Res,OkRs l∧ds=[lD (l.map resC)]:=by
 obtain⟨es,he,h1,rfl⟩:=qd9 qqu h;obtain⟨l,hl,rfl⟩:=zkn (fun c=>qwd) h1;exact⟨l,⟨zsb he,hl⟩,rfl⟩
theorem qss (h:Is Tryz.prog (n+3) 39 ds):∃l:List Key,(l.length≤9223372036854775807∧∀k∈l,nB k.name)∧ds=[lD (l.map keyC)]:=by
 obtain⟨es,he,h1,rfl⟩:=qd9 qqw h;obtain⟨l,hl,rfl⟩:=zkn (fun c=>qo6) h1;exact⟨l,⟨zsb he,hl⟩,rfl⟩
theorem is_i (h:Is Tryz.prog (n+1) 3 ds):∃x:Int,True∧ds=[iD x]:=qiz h
end Go.Proofs.YtjoaclgkjhncjaaGreatDoor
namespace Go.Proofs.YtjoaclgkjhncjaaGreatDoor
open Go.ChangeShapes Go.WideShapes Go.ChangeAt Go.RowKit Go.AI Go.G
set_option maxRecDepth 20000
variable {n : Nat} {ds : List D}
theorem qxm :aggT Tryz.prog 26=true:=by kernel_rfl
theorem qxn :aggT Tryz.prog 3=false:=by kernel_rfl
end Go.Proofs.YtjoaclgkjhncjaaGreatDoor
namespace Go.Proofs.YtjoaclgkjhncjaaGreatDoor
open Go.AI Go.G
set_option maxRecDepth 20000
attribute [simp] Tryz.ntmps90 Tryz.results90
theorem qrv (l:List Res)(hl:l.length≤1000000):Ct Tryz.prog 90 [lst (l.map resC)] [] [] (.d (.mp true [.int,.str] false (zg0 (l.map Res.key)))) []:=by
 refine Ct.B Tryz.func90 mixed 9999 400 ?_;simp;refine LoopI.U mixed (l) (fun k=>[(3,.own 64),(7,lst (l.map resC)),(8,int l.length),(9,int k.1)]) (fun k=>[(64,.map true [.int,.str] false (zg0 ((l.take k.1).map Res.key)))]) 65 [] (by constructor<;>simp[zhh]) ?_;rintro⟨k,hk1⟩ B hB;refine CI.run 9999 400 rfl ?_;simp[zhh];refine sBI (fun h=>?_) (fun h=>?_)
 ·have hk:k<(l).length:=by simpa using h
  obtain⟨x,hx,hr,hm,ht,hd⟩:=inL hk;have hw:=wr (k:=k) (by omega);simp only[h];simp[hr,hw];refine CI.p (zfr x) Tryz.call46 9999 ?_;simp;refine hB _ ⟨k+1,by omega⟩ [] ?_ (by simp;omega);constructor<;>simp[hw,ht]
 ·have hkl:k=(l).length:=by simp at h;omega
  subst hkl;simp only[h];simp[List.take_length,List.drop_length];first|exact fin0 (by simp) rfl|exact zaa (by simp)
attribute [simp] Tryz.ntmps44 Tryz.results44
theorem zwz (l:List Res)(hl:l.length≤30000):Ct Tryz.prog 44 [lst (l.map resC)] [] [] (lst ((zra l).map keyC)) []:=by
 refine Ct.B Tryz.func44 mixed 9999 400 ?_;simp;refine CI.p (qrv l (by omega)) Tryz.call90 9999 ?_;simp;refine LoopI.nilOwn 4 2 26 rfl ?_;refine LoopI.U mixed (l) (fun k=>[(3,.d (.mp true [.int,.str] false (zg0 (l.map Res.key)))),(4,.own 64),(11,lst (l.map resC)),(12,int l.length),(13,int k.1)]) (fun k=>[(64,.grow 2 ((zlk (l.take k.1) l).map keyC) 26)]) 65 [] (by constructor<;>simp) ?_;rintro⟨k,hk1⟩ B hB;refine CI.run 9999 400 rfl ?_;simp;refine sBI (fun h=>?_) (fun h=>?_)
 ·have hk:k<(l).length:=by simpa using h
  obtain⟨x,hx,hr,hm,ht,hd⟩:=inL hk;have hw:=wr (k:=k) (by omega);simp only[h];simp[hr,hw];have hml:=zlj (l.take k) l;have hr33:=zhb x;have htk:(l.take k).length≤30000:=by simp;omega
  refine CI.p (qbc x) Tryz.call91 9999 ?_;simp;refine LoopI.U mixed ((zbs x)) (fun kj=>[(3,.d (.mp true [.int,.str] false (zg0 (l.map Res.key)))),(4,.own 64),(11,lst (l.map resC)),(12,int l.length),(13,int k),(18,lst ((zbs x).map keyC)),(19,int (zbs x).length),(20,int kj.1)]) (fun kj=>[(64,.grow 2 ((zlk (l.take k) l++((zbs x).take kj.1).filter (noR l)).map keyC) 26)]) 65 [] (by constructor<;>simp) ?_;rintro⟨kj,hk1j⟩ Bj hBj;refine CI.run 9999 400 rfl ?_;simp;refine sBI (fun hj=>?_) (fun hj=>?_)
  ·have hkj:kj<((zbs x)).length:=by simpa using hj
   obtain⟨q,hxj,hrj,hmj,htj,hdj⟩:=inL hkj;have hwj:=wr (k:=kj) (by omega);simp only[hj];simp[hrj,hwj];have hfl:(((zbs x).take kj).filter (noR l)).length≤33:=Nat.le_trans (List.length_filter_le _ _) (by simp;omega);by_cases h1:q∈l.map Res.key
   ·have hL:=zkj h1;have h1':noR l q=false:=by simp[noR,mem_keys.1 h1]
    simp[hL];refine hBj _ ⟨kj+1,by omega⟩ [] ?_ (by simp;omega);constructor<;>simp[hwj,htj,List.filter_append,h1',hwj]
   ·have hL:=zjj h1;have h1':noR l q=true:=by
     cases h:(getR l q).isSome
     ·simp[noR,h]
     ·exact absurd (mem_keys.2 h) h1
    simp[hL,hrj];refine⟨by omega,?_⟩;refine hBj _ ⟨kj+1,by omega⟩ [] ?_ (by simp;omega);constructor<;>simp[hwj,htj,List.filter_append,h1',hwj]
  ·have hklj:kj=((zbs x)).length:=by simp at hj;omega
   subst hklj;simp only[hj];simp[List.take_length,List.drop_length,hw];refine hB _ ⟨k+1,by omega⟩ [] ?_ (by simp;omega);constructor<;>simp[hw,ht,qd4]
 ·have hkl:k=(l).length:=by simp at h;omega
  subst hkl;simp only[h];simp[List.take_length,List.drop_length];have hml:=zlj l l;refine CI.cc [64] (qay (zlk l l) (by omega)) Tryz.call50 9999 ?_;simp;refine CI.cc [64] (zl6 (zk2 (zlk l l)) (by rw[zex];omega)) Tryz.call52 9999 ?_;simp;rw[qd3];first|exact fin0 (by simp) rfl|exact zaa (by simp)
attribute [simp] Tryz.ntmps207 Tryz.results207
theorem qwb (r:Res)(n:Int):Ct Tryz.prog 207 [st (resC r),.d (.pro [iD n])] [] [] (bool (decide (r.kind=n))) []:=by
 refine Ct.B Tryz.func207 mixed 9999 400 ?_;simp;first|exact fin0 (by simp) rfl|exact zaa (by simp)
attribute [simp] Tryz.ntmps136 Tryz.results136
theorem qo3 (l:List Res)(n:Int)(hl:l.length≤1000000):Ct Tryz.prog 136 [lst (l.map resC),int n] [] [] (lst ((l.filter fun r=>decide (r.kind=n)).map resC)) []:=by
 refine Ct.B Tryz.func136 mixed 1 400 ?_;simp;refine CI.s (tm:=[(0,lst (l.map resC)),(3,.d (.pro [iD n]))]) (mm:=[]) (nx:=65) [] [64] (by constructor<;>simp) ?_;refine CI.run 9999 400 rfl ?_;simp;refine CI.p (zun l (.fn (.func 207) [] [.pro [iD n]]) (fun r=>decide (r.kind=n)) (fun r hr=>FnOk.clo (by exact qwb r n) Tryz.call207 rfl rfl) hl) Tryz.call162 9999 ?_;simp;first|exact fin0 (by simp) rfl|exact zaa (by simp)
end Go.Proofs.YtjoaclgkjhncjaaGreatDoor
namespace Go.Proofs.YtjoaclgkjhncjaaGreatDoor
open Go.AI Go.G
set_option maxRecDepth 20000
attribute [simp] Tryz.ntmps88 Tryz.results88
theorem zmh (l:List Res):Ct Tryz.prog 88 [lst (l.map resC)] [] [] (int (tabE l)) []:=by
 refine Ct.B Tryz.func88 mixed 9999 400 ?_;simp;refine sBI (fun h0=>?_) (fun h0=>?_)<;>simp only[h0]<;>simp<;>(try simp only[nT,nF,dT,dF]at h0)
 ·have e:tabE l=3:=by simp only[tabE];rw[if_pos (by omega)]
  first|exact fin0 (by simp[e]) rfl|exact zaa (by simp[e])
 have h64:¬64<l.length:=by omega
 have hl:l.length≤64:=by omega
 refine LoopI.inv mixed rfl (ι:={k:Nat//k≤(l).length∧(l.take k).all (fun r=>decide (zbd r=0))=true}) (fun k=>[(0,lst (l.map resC)),(13,lst (l.map resC)),(14,int l.length),(15,int k.1)]) (fun k=>[]) 64 (fun k=>(l).length-k.1) ⟨0,by omega,by simp⟩ [] (by constructor<;>simp) ?_;rintro⟨k,hk1,hi⟩ B hB;refine CI.run 9999 400 rfl ?_;simp;refine sBI (fun h=>?_) (fun h=>?_)
 ·have hk:k<(l).length:=by simpa using h
  obtain⟨x,hx,hr,hm,ht,hd⟩:=inL hk;have hw:=wr (k:=k) (by omega);simp only[h];simp[hr,hw];refine CI.p (znf x) Tryz.call135 9999 ?_;simp;refine sBI (fun h1=>?_) (fun h1=>?_)<;>simp only[h1]<;>simp<;>(try simp only[nT,nF,dT,dF]at h1)
  ·have e:tabE l=zbd x:=by rw[←zul hi hr h1];exact qfp h64 (by rw[zul hi hr h1];exact h1)
   first|exact fin0 (by simp[e]) rfl|exact zaa (by simp[e])
  ·refine hB _ ⟨k+1,by omega,by simp[ht,hi,h1]⟩ [] ?_ (by simp;omega);constructor<;>simp[hw,ht,h1]
 ·have hkl:k=(l).length:=by simp at h;omega
  subst hkl;simp only[h];simp[List.take_length,List.drop_length];rw[List.take_length]at hi;have hf:=zsi hi;clear hi hB;refine LoopI.inv mixed rfl (ι:={k:Nat//k≤(l).length∧AscR (l.take k)}) (fun k=>[(0,lst (l.map resC)),(25,lst (l.map resC)),(26,int l.length),(27,int k.1)]) (fun k=>[]) 64 (fun k=>(l).length-k.1) ⟨0,by omega,by simp⟩ [] (by constructor<;>simp) ?_;rintro⟨k,hk1,hi⟩ B hB;refine CI.run 9999 400 rfl ?_;simp;refine sBI (fun h=>?_) (fun h=>?_)
  ·have hk:k<(l).length:=by simpa using h
   obtain⟨x,hx,hr,hm,ht,hd⟩:=inL hk;have hw:=wr (k:=k) (by omega);simp only[h];simp[hr,hw];cases k with
   |zero=>
    simp;refine⟨by decide+kernel,?_⟩;refine hB _ ⟨0+1,by omega,by rw[ht];simp[AscR,Asc]⟩ [] ?_ (by simp;omega);constructor<;>simp[hw]
   |succ m=>
    have hk':m<l.length:=by omega
    have hy:l[m]? =some l[m]:=List.getElem?_eq_getElem hk';generalize l[m]=y at hy;have w0:IntKind.wrap .i64 (m:Int)=m:=zab (by omega) (by omega);have w1:IntKind.wrap .i64 ((m:Int)+1+1)=(m:Int)+1+1:=zab (by omega) (by omega);have c0:(0:Int)<(m:Int)+1:=by omega
    have c1:(0:Int)≤(m:Int)+1:=by omega
    have c2:(m:Int)<l.length:=by omega
    simp[c0,w0,c2,hy];have c3:(m:Int)+1<l.length:=by omega
    refine CI.p (zfr y) Tryz.call46 9999 ?_ (ha:=by simp[c1,c3,hr]);simp[c1,c3,hr];refine CI.p (zfr x) Tryz.call46 9999 ?_;simp;refine CI.p (qj4 y.key x.key) Tryz.call51 9999 ?_;simp;refine⟨by decide+kernel,?_⟩;refine sBI (fun h3=>?_) (fun h3=>?_)<;>simp only[h3]<;>simp[hr,hy]<;>(try simp only[nT,nF,dT,dF]at h3)
    ·have e:tabE l=2:=qfq h64 hf (fun ha=>by have:=qxf ha hy hr;omega);first|exact fin0 (by simp[e]) rfl|exact zaa (by simp[e])
    ·have h4:cmpK y.key x.key= -1:=by have:=zen y.key x.key;omega
     refine hB _ ⟨m+1+1,by omega,by rw[ht];exact qn6 _ _ hi (fun z hz=>by rw[zxf hy]at hz;cases hz;exact h4)⟩ [] ?_ (by simp;omega);constructor<;>simp[w1]
  ·have hkl:k=(l).length:=by simp at h;omega
   subst hkl;simp only[h];simp[List.take_length,List.drop_length];rw[List.take_length]at hi;clear hB;refine CI.p (qo3 l 0 (by omega)) Tryz.call136 9999 ?_;simp;have hKl:(l.filter fun r=>decide (r.kind=0)).length≤64:=Nat.le_trans (List.length_filter_le _ _) hl;have hports:zwd l=(l.filter fun r=>decide (r.kind=0)).map Res.port:=rfl;generalize(l.filter fun r=>decide (r.kind=0))=K at hKl hports;refine LoopI.inv mixed rfl (ι:={k:Nat//k≤(K).length∧((K.take k).map Res.port).Nodup}) (fun k=>[(7,.own 64),(50,lst (K.map resC)),(51,int K.length),(52,int k.1)]) (fun k=>[(64,.map false [.int] false (zlp ((K.take k.1).map Res.port)))]) 65 (fun k=>(K).length-k.1) ⟨0,by omega,by simp⟩ [] (by constructor<;>simp[zi0]) ?_;rintro⟨k,hk1,hi⟩ B hB;refine CI.run 9999 400 rfl ?_;simp[zi0];refine sBI (fun h=>?_) (fun h=>?_)
   ·have hk:k<(K).length:=by simpa using h
    obtain⟨x,hx,hr,hm,ht,hd⟩:=inL hk;have hw:=wr (k:=k) (by omega);simp only[h];simp[hr,hw];by_cases hP:x.port∈(K.take k).map Res.port
    ·have hL:=qri hP;rw[List.map_take]at hL;have e:tabE l=13:=by
      rw[zml h64 hf ‹AscR l›,if_neg];rw[hports];intro hn;have hs:=hn.sublist ((List.take_sublist (k+1) K).map Res.port);rw[ht,List.map_append,List.map_cons,List.map_nil,zr3]at hs;exact hs.2 hP
     simp[hL];first|exact fin0 (by simp[e]) rfl|exact zaa (by simp[e])
    ·have hL:=qlx hP;rw[List.map_take]at hL;simp[hL];refine hB _ ⟨k+1,by omega,by rw[ht,List.map_append,List.map_cons,List.map_nil,zr3];exact⟨hi,hP⟩⟩ [] ?_ (by simp;omega);constructor<;>simp[hw,ht]
   ·have hkl:k=(K).length:=by simp at h;omega
    subst hkl;simp only[h];simp[List.take_length,List.drop_length];rw[List.take_length]at hi;have e:tabE l=0:=by rw[zml h64 hf ‹AscR l›,hports,if_pos hi]
    first|exact fin0 (by simp[e]) rfl|exact zaa (by simp[e])
end Go.Proofs.YtjoaclgkjhncjaaGreatDoor
namespace Go.Proofs.YtjoaclgkjhncjaaGreatDoor
open Go.AI Go.G
set_option maxRecDepth 20000
attribute [simp] Tryz.ntmps68 Tryz.results68
theorem zyb (n:Int):Ct Tryz.prog 68 [int n] [] [] (int (capN n)) []:=by
 refine Ct.B Tryz.func68 mixed 9999 400 ?_;simp;have e:=qcm n;first|exact fin0 (by simp[e]) rfl|exact zaa (by simp[e])
attribute [simp] Tryz.ntmps32 Tryz.results32
theorem zr5 (n:Int):Ct Tryz.prog 32 [int n] [] [] (st (zbg (newS n))) []:=by
 refine Ct.B Tryz.func32 mixed 9999 400 ?_;simp;refine CI.p (zyb n) Tryz.call68 9999 ?_;simp;first|exact fin0 (by simp[newS]) rfl|exact zaa (by simp[newS])
attribute [simp] Tryz.ntmps53 Tryz.results53
theorem zyt (s:Store):Ct Tryz.prog 53 [st (zbg s)] [] [] (st (zbg (za5 s))) []:=by
 refine Ct.B Tryz.func53 mixed 9999 400 ?_;simp;refine CI.p (zyb s.cap) Tryz.call68 9999 ?_;simp;refine sBI (fun h1=>?_) (fun h1=>?_)<;>simp only[h1]<;>simp<;>(try simp only[nT,nF,dT,dF]at h1)
 ·have h0:s.hist=[]:=by first|exact h1|exact List.eq_nil_of_length_eq_zero (by omega)
  refine CI.p (zr5 (capN s.cap)) Tryz.call32 9999 ?_;simp;rw[qfk h0];first|exact fin0 (by simp[newS,zl9]) rfl|exact zaa (by simp[newS,zl9])
 ·have h0:¬s.hist=[]:=by first|exact h1|exact fun e=>h1 (by rw[e];rfl)
  rw[zmi h0];first|exact fin0 (by simp) rfl|exact zaa (by simp)
attribute [simp] Tryz.ntmps92 Tryz.results92
theorem at_p (s:Store)(i:Int):Ct Tryz.prog 92 [st (zbg s),int i] [] [] (atA s i) []:=by
 refine Ct.B Tryz.func92 mixed 9999 400 ?_;simp;refine CI.p (zyt s) Tryz.call53 9999 ?_;simp;refine sGI (fun h1=>?_) (fun h1=>?_)<;>simp only[h1]<;>simp<;>(try simp only[nT,nF,dT,dF]at h1)
 ·have e:=qxb (s:=s) h1;first|exact fin0 (by simp[e]) rfl|exact zaa (by simp[e])
 refine sBI (fun h2=>?_) (fun h2=>?_)<;>simp only[h2]<;>simp<;>(try simp only[nT,nF,dT,dF]at h2)
 ·have e:=qxe (s:=s) (i:=i) (by omega);first|exact fin0 (by simp[e]) rfl|exact zaa (by simp[e])
 ·obtain⟨l,⟨hh,e3⟩,e1,e⟩:=qxc (s:=s) h1 (by omega);have c1:0≤i:=by omega
  have c2:i<(za5 s).hist.length:=by omega
  simp[e1,c1,c2,e3];first|exact fin0 (by simp[e]) rfl|exact zaa (by simp[e])
attribute [simp] Tryz.ntmps45 Tryz.results45
theorem qo9 (s:Store)(k_:Key)(v:Int)(hs:OkStore s):Ct Tryz.prog 45 [st (zbg s),st (keyC k_),int v] [] [] (qyg s k_ v) []:=by
 refine Ct.B Tryz.func45 mixed 9999 400 ?_;simp;refine CI.p (at_p s v) Tryz.call92 9999 ?_;simp;refine CI.p (qee ((atS s v).getD []) k_ (qx6 hs v).len) Tryz.call15 9999 ?_;simp;cases hg:getR ((atS s v).getD []) k_ with
 |none=>
  have e:=qek hg;simp;first|exact fin0 (by simp[e,zRes]) rfl|exact zaa (by simp[e,zRes])
 |some r=>
  have e:=qej hg;simp;refine sBI (fun h1=>?_) (fun h1=>?_)<;>simp only[h1]<;>simp<;>(try simp only[nT,nF,dT,dF]at h1)
  ·rw[if_pos h1]at e;first|exact fin0 (by simp[e]) rfl|exact zaa (by simp[e])
  ·rw[if_neg h1]at e;first|exact fin0 (by simp[e,zRes]) rfl|exact zaa (by simp[e,zRes])
attribute [simp] Tryz.ntmps392 Tryz.results392
theorem qyh (s:Store)(m:G.Mark)(hs:OkStore s):Ct Tryz.prog 392 [st (zfq m),.d (.pro (zbg s))] [] [] (st (resC (ofM s m))) []:=by
 refine Ct.B Tryz.func392 mixed 9999 400 ?_;simp;refine CI.p (qo9 s m.k m.ver hs) Tryz.call45 9999 ?_;simp;cases hg:zku s m.k m.ver with
 |none=>
  have e:ofM s m=zrh m:=by simp[ofM,hg]
  simp;first|exact fin0 (by simp[e,zrh]) rfl|exact zaa (by simp[e,zrh])
 |some r=>
  have e:ofM s m=r:=by simp[ofM,hg]
  simp;first|exact fin0 (by simp[e]) rfl|exact zaa (by simp[e])
attribute [simp] Tryz.ntmps367 Tryz.results367
theorem qne (s:Store):Ct Tryz.prog 367 [st (zbg s)] [] [] (.d (.fn (.func 392) [] [.pro (zbg s)])) []:=by
 refine Ct.B Tryz.func367 mixed 9999 400 ?_;simp;first|exact fin0 (by simp) rfl|exact zaa (by simp)
attribute [simp] Tryz.ntmps311 Tryz.results311
theorem qsk (s:Store)(l:List G.Mark)(hs:OkStore s)(hl:l.length≤1000):Ct Tryz.prog 311 [st (zbg s),lst (l.map zfq)] [] [] (lst ((zd6 s l).map resC)) []:=by
 refine Ct.B Tryz.func311 mixed 9999 400 ?_;simp;refine CI.p (qne s) Tryz.call367 9999 ?_;simp;refine LoopI.U mixed (l) (fun k=>[(5,.d (.fn (.func 392) [] [.pro (zbg s)])),(6,lst ((zd6 s (l.take k.1)).map resC)),(11,lst (l.map zfq)),(12,int l.length),(13,int k.1)]) (fun k=>[]) 64 [] (by constructor<;>simp[zxg]) ?_;rintro⟨k,hk1⟩ B hB;refine CI.run 9999 400 rfl ?_;simp[zxg];refine sBI (fun h=>?_) (fun h=>?_)
 ·have hk:k<(l).length:=by simpa using h
  obtain⟨x,hx,hr,hm,ht,hd⟩:=inL hk;have hw:=wr (k:=k) (by omega);simp only[h];simp[hr,hw];have hlen:=zqh s (l.take k);have htk:(l.take k).length≤1000:=by simp;omega
  refine CI.ff (FnOk.clo (args:=[st (zfq x)]) (by exact qyh s x hs) Tryz.call392 rfl rfl) rfl rfl rfl 9999 ?_;simp;refine CI.p (qoh (zd6 s (l.take k)) (ofM s x) (by omega)) Tryz.call280 9999 ?_;simp;refine hB _ ⟨k+1,by omega⟩ [] ?_ (by simp;omega);constructor<;>simp[hw,ht,qd8]
 ·have hkl:k=(l).length:=by simp at h;omega
  subst hkl;simp only[h];simp[List.take_length,List.drop_length];first|exact fin0 (by simp) rfl|exact zaa (by simp)
end Go.Proofs.YtjoaclgkjhncjaaGreatDoor
