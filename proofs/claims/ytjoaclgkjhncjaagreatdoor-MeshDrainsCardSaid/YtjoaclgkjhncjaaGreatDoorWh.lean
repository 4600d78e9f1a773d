/-
  LAYERS 15, 20: the walks of steps, and of what is sent; what arguments are, what is laid.
-/
import Derived.Test.YtjoaclgkjhncjaaGreatDoorWf
import Derived.Test.YtjoaclgkjhncjaaGreatDoorPs
import Derived.Test.YtjoaclgkjhncjaaGreatDoorFd
import Derived.Test.YtjoaclgkjhncjaaGreatDoorFc
set_option linter.unusedSimpArgs false
set_option linter.unusedVariables false
namespace Go.Proofs.YtjoaclgkjhncjaaGreatDoor
open Go.AI Go.G
set_option maxRecDepth 20000
noncomputable abbrev jobC (j:Job):List D:=[lD (j.adds.map resC),lD (j.gone.map keyC),zod j.reach,lD (j.have_.map resC),lD (j.held.map keyC)]
abbrev jobB (j:Job):Prop:=j.adds.length≤1000000∧j.gone.length≤1000000∧j.have_.length≤1000000∧j.held.length≤1000000
attribute [simp] Tryz.ntmps162 Tryz.results162
theorem qjm (l:List Res)(kf:D)(p:Res→Bool)(hf:∀x∈l,FnOk Tryz.prog (.d kf) [st (resC x)] (bool (p x)))(hl:l.length≤1000000):Ct Tryz.prog 162 [lst (l.map resC),.d kf] [] [] (.own 64) [(64,.grow 7 ((l.filter p).map resC) 67)]:=by
 refine Ct.B Tryz.func162 mixed 9999 400 ?_;simp;refine LoopI.nilOwn 5 7 67 rfl ?_;refine LoopI.U mixed (l) (fun k=>[(0,lst (l.map resC)),(1,.d kf),(5,.own 64),(8,lst (l.map resC)),(9,int l.length),(10,int k.1)]) (fun k=>[(64,.grow 7 (((l.take k.1).filter p).map resC) 67)]) 65 [] (by constructor<;>simp) ?_;rintro⟨k,hk1⟩ B hB;refine CI.run 9999 400 rfl ?_;simp;refine sBI (fun h=>?_) (fun h=>?_)
 ·have hk:k<(l).length:=by simpa using h
  obtain⟨x,hx,hr,hm,ht,hd⟩:=inL hk;have hw:=wr (k:=k) (by omega);simp only[h];simp[hr,hw];have hlen:((l.take k).filter p).length≤1000000:=Nat.le_trans (List.length_filter_le _ _) (by simp;omega);refine CI.ff (hf x hm) rfl rfl rfl 9999 ?_;simp;refine sBI (fun h1=>?_) (fun h1=>?_)<;>simp only[h1]<;>simp[hr]<;>(try simp only[nT,nF,dT,dF]at h1)
  ·refine⟨by omega,?_⟩;refine hB _ ⟨k+1,by omega⟩ [] ?_ (by simp;omega);constructor<;>simp[hw,ht,List.filter_append,h1]
  ·refine hB _ ⟨k+1,by omega⟩ [] ?_ (by simp;omega);constructor<;>simp[hw,ht,List.filter_append,h1]
 ·have hkl:k=(l).length:=by simp at h;omega
  subst hkl;simp only[h];simp[List.take_length,List.drop_length];first| (refine⟨[(64,64)],?_,?_,?_,?_,?_,?_,?_⟩<;>simp[nmF,inB];done)| (refine⟨by decide+kernel,?_⟩;refine⟨[(64,64)],?_,?_,?_,?_,?_,?_,?_⟩<;>simp[nmF,inB])
attribute [simp] Tryz.ntmps136 Tryz.results136
theorem qsm (l:List Res)(n:Int)(hl:l.length≤1000000):Ct Tryz.prog 136 [lst (l.map resC),int n] [] [] (.own 64) [(64,.grow 7 ((zkl l n).map resC) 67)]:=by
 refine Ct.B Tryz.func136 mixed 1 400 ?_;simp;refine CI.s (tm:=[(0,lst (l.map resC)),(3,.d (.pro [iD n]))]) (mm:=[]) (nx:=65) [] [64] (by constructor<;>simp) ?_;refine CI.run 9999 400 rfl ?_;simp;refine CI.cc [] (qjm l (.fn (.func 207) [] [.pro [iD n]]) (fun r=>decide (r.kind=n)) (fun r hr=>FnOk.clo (by exact qwb r n) Tryz.call207 rfl rfl) hl) Tryz.call162 9999 ?_;simp;first| (refine⟨[(64,193)],?_,?_,?_,?_,?_,?_,?_⟩<;>simp[nmF,inB,zkl];done)| (refine⟨by decide+kernel,?_⟩;refine⟨[(64,193)],?_,?_,?_,?_,?_,?_,?_⟩<;>simp[nmF,inB,zkl])
attribute [simp] Tryz.ntmps218 Tryz.results218
theorem zsp :Ct Tryz.prog 218 [lst []] [] [] (lst []) []:=by
 refine Ct.B Tryz.func218 mixed 9999 400 ?_;simp;refine⟨?_,?_⟩
 ·first|exact fin0 (by simp) rfl|exact zaa (by simp)
 ·first|exact fin0 (by simp) rfl|exact zaa (by simp)
theorem zqq (x:Key)(l:List Key)(hl:l.length≤1000000):Ct Tryz.prog 218 [lst ((x::l).map keyC)] [] [] (.own 64) [(64,.grow 2 ((x::l).map keyC) 26)]:=by
 refine Ct.B Tryz.func218 mixed 9999 400 ?_;simp;refine⟨by omega,?_⟩;first| (refine⟨[(64,384)],?_,?_,?_,?_,?_,?_,?_⟩<;>simp[nmF,inB];done)| (refine⟨by decide+kernel,?_⟩;refine⟨[(64,384)],?_,?_,?_,?_,?_,?_,?_⟩<;>simp[nmF,inB])
attribute [simp] Tryz.ntmps58 Tryz.results58
theorem zg1 (s:Step)(h:s.adds.length≤1000000∧s.gone.length≤1000000):Ct Tryz.prog 58 [st (zyx s)] [] [] (bool s.none) []:=by
 refine Ct.B Tryz.func58 mixed 9999 400 ?_;simp;obtain⟨h1,h2⟩:=h;have w:IntKind.wrap .i64 ((s.adds.length:Int)+s.gone.length)=s.adds.length+s.gone.length:=zab (by omega) (by omega);have e:decide ((s.adds.length:Int)+s.gone.length=0)=s.none:=by unfold Step.none;exact decide_eq_decide.2 (by omega)
 simp[w];rw[e];first|exact fin0 (by simp) rfl|exact zaa (by simp)
attribute [simp] Tryz.ntmps166 Tryz.results166
theorem qw1 (j:Job)(r:Res):Ct Tryz.prog 166 [st (resC r),.d (.pro [.pro (jobC j)])] [] [] (bool (!decide (r.key∈j.reach))) []:=by
 refine Ct.B Tryz.func166 mixed 9999 400 ?_;simp;by_cases h:r.key∈j.reach
 ·have e1:=zkj h;refine CI.p (zfr r) Tryz.call46 9999 ?_ (ha:=by simp[e1]);simp[e1];refine⟨by decide+kernel,?_⟩;first|exact fin0 (by simp[h]) rfl|exact zaa (by simp[h])
 ·have e1:=zjj h;refine CI.p (zfr r) Tryz.call46 9999 ?_ (ha:=by simp[e1]);simp[e1];refine⟨by decide+kernel,?_⟩;first|exact fin0 (by simp[h]) rfl|exact zaa (by simp[h])
attribute [simp] Tryz.ntmps102 Tryz.results102
theorem zz4 (j:Job)(n:Int)(hj:jobB j):Ct Tryz.prog 102 [.d (.pro (jobC j)),int n] [] [] (st (zyx (j.early n))) []:=by
 refine Ct.B Tryz.func102 mixed 1 400 ?_;simp;refine CI.s (tm:=[(1,int n),(2,.d (.pro [.pro (jobC j)])),(4,.ptr 64 0)]) (mm:=[(64,.cells [int 0,lst [],lst []] 98)]) (nx:=65) [(64,128)] [64] (by constructor<;>simp) ?_;refine CI.run 9999 400 rfl ?_;simp;obtain⟨K,hK⟩:∃K,zkl j.adds n=K:=⟨_,rfl⟩;have hlen:K.length≤1000000:=by rw[←hK];exact Nat.le_trans (zi1 _ _) hj.1
 have e:(j.early n).adds=K.filter fun r=>!(!decide (r.key∈j.reach)):=by simp[Job.early,hK]
 have e1:(j.early n).kind=n:=rfl;have e2:(j.early n).gone=[]:=rfl;refine CI.cc [] (qsm j.adds n hj.1) Tryz.call136 9999 ?_;simp;rw[hK,e,e1,e2];clear e e1 e2 hK;cases K with
 |nil=>
  refine CI.g [385] [] (delE (.fn (.func 166) [] [.pro [.pro (jobC j)]])) Tryz.call62 9999 ?_;simp;first|exact fin0 (by simp) rfl|exact zaa (by simp)
 |cons x l=>
  refine CI.cc [385] (delC (x::l) (.fn (.func 166) [] [.pro [.pro (jobC j)]]) (fun r=>!decide (r.key∈j.reach)) (fun r hr=>FnOk.clo (by exact qw1 j r) Tryz.call166 rfl rfl) hlen) Tryz.call62 9999 ?_;simp;first|exact fin0 (by simp) rfl|exact zaa (by simp)
attribute [simp] Tryz.ntmps104 Tryz.results104
theorem qby (j:Job)(n:Int)(hj:jobB j):Ct Tryz.prog 104 [.d (.pro (jobC j)),int n] [] [] (st (zyx (j.late n))) []:=by
 refine Ct.B Tryz.func104 mixed 9999 400 ?_;simp;refine CI.p (qo3 j.adds n hj.1) Tryz.call136 9999 ?_;simp;first|exact fin0 (by simp[Job.late,zkl]) rfl|exact zaa (by simp[Job.late,zkl])
attribute [simp] Tryz.ntmps219 Tryz.results219
theorem off1 (n:Int)(k_:Key):Ct Tryz.prog 219 [st (keyC k_),.d (.pro [iD n])] [] [] (bool (!decide (k_.kind=n))) []:=by
 refine Ct.B Tryz.func219 mixed 9999 400 ?_;simp;first|exact fin0 (by simp) rfl|exact zaa (by simp)
attribute [simp] Tryz.ntmps164 Tryz.results164
theorem qnp (l:List Key)(kf:D)(p:Key→Bool)(hf:∀x∈l,FnOk Tryz.prog (.d kf) [st (keyC x)] (bool (p x)))(hl:l.length≤1000000)(h1:idxF p l= -1):Ct Tryz.prog 164 [.own 0,.d kf] [] [(0,.grow 2 (l.map keyC) 26)] (.own 0) [(0,.grow 2 (l.map keyC) 26)]:=by
 refine Ct.B Tryz.func164 mixed 9999 400 ?_;simp;refine CI.cc [0] (zug l kf p hf (by omega)) Tryz.call208 9999 ?_;simp;simp[h1];first| (refine⟨[],?_,?_,?_,?_,?_,?_,?_⟩<;>simp[nmF,inB];done)| (refine⟨by decide+kernel,?_⟩;refine⟨[],?_,?_,?_,?_,?_,?_,?_⟩<;>simp[nmF,inB])
theorem qno (l:List Key)(kf:D)(p:Key→Bool)(hf:∀x∈l,FnOk Tryz.prog (.d kf) [st (keyC x)] (bool (p x)))(hl:l.length≤1000000)(i:Nat)(x:Key)(h1:idxF p l=i)(h2:i<l.length):Ct Tryz.prog 164 [.own 0,.d kf] [] [(0,.grow 2 (l.map keyC) 26)] (.sl 0 2 0 (l.filter fun x=>!p x).length) [(0,.grow 2 ((l.filter fun x=>!p x).map keyC++List.replicate (l.length-(l.filter fun x=>!p x).length) [iD 0,sD ⟨#[]⟩]) 26)]:=by
 refine Ct.B Tryz.func164 mixed 9999 400 ?_;simp;refine CI.cc [0] (zug l kf p hf (by omega)) Tryz.call208 9999 ?_;simp;have hne:¬(i:Int)= -1:=by omega
 have hwi:IntKind.wrap .i64 ((i:Int)+1)=i+1:=zab (by omega) (by omega);simp[h1,hne,hwi];have d0:=DelSt.start (x:=x) h1 h2;refine LoopI.inv mixed rfl (ι:={q:Nat×Nat×List Key//DelSt p l q.1 q.2.1 q.2.2}) (fun k=>[(0,.own 0),(1,.d kf),(5,int k.1.2.1),(6,int k.1.1)]) (fun k=>[(0,.grow 2 (k.1.2.2.map keyC) 26)]) 64 (fun k=>l.length-k.1.1) ⟨(i+1,i,l),d0⟩ [] (by constructor<;>simp) ?_;rintro⟨⟨j,i,cur⟩,hd⟩ B hB;clear h1 h2 hne hwi d0;have hlen:=hd.len;have hlt:=hd.lt;have hle:=hd.le;simp only at hlen hlt hle;have w1:IntKind.wrap .i64 ((j:Int)+1)=j+1:=zab (by omega) (by omega);have w2:IntKind.wrap .i64 ((i:Int)+1)=i+1:=zab (by omega) (by omega);refine CI.run 9999 400 rfl ?_;simp[hlen];refine sBI (fun h=>?_) (fun h=>?_)<;>simp only[h]<;>simp<;>(try simp only[nT,nF,dT,dF]at h)
 ·have hj:j<l.length:=by omega
  have hv:l[j]? =some l[j]:=List.getElem?_eq_getElem hj;have hm:l[j]∈l:=List.getElem_mem hj;generalize l[j]=v at hv hm;have hg:=hd.get hv;have hjc:j<cur.length:=by omega
  have hgx:cur[j]=v:=by rw[List.getElem?_eq_getElem hjc]at hg;exact Option.some.inj hg
  simp[hjc,hgx];refine CI.ff (hf v hm) rfl rfl rfl 9999 ?_;simp;have hic:i<cur.length:=by omega
  refine sBI (fun h2=>?_) (fun h2=>?_)<;>simp only[h2]<;>simp[hic]
  ·have hp:p v=false:=by simpa using h2
   refine hB _ ⟨(j+1,i+1,cur.set i v),hd.keep hv hp⟩ [] ?_ (by simp;omega);constructor<;>simp[w1,w2,List.map_set]
  ·have hp:p v=true:=by simpa using h2
   refine hB _ ⟨(j+1,i,cur),hd.del hv hp⟩ [] ?_ (by simp;omega);constructor<;>simp[w1]
 ·have hj:j=l.length:=by omega
  subst hj;have e:cur.take i=l.filter (fun x=>!p x):=hd.done;simp[hlen];have e2:List.take i (List.map keyC cur)=List.map keyC (List.filter (fun x=>!p x) l):=by rw[←List.map_take,e]
  have e3:(List.filter (fun x=>!p x) l).length=i:=by rw[←e,List.length_take];omega
  refine⟨by omega,by omega,by omega,?_⟩;have e4:List.drop (i+(l.length-i)) (List.map keyC cur)=[]:=by rw[List.drop_eq_nil_iff];simp;omega
  rw[e2,e3,e4];first| (refine⟨[],?_,?_,?_,?_,?_,?_,?_⟩<;>simp[nmF,inB];done)| (refine⟨by decide+kernel,?_⟩;refine⟨[],?_,?_,?_,?_,?_,?_,?_⟩<;>simp[nmF,inB])
theorem qnn (l:List Key)(kf:D)(p:Key→Bool)(hf:∀x∈l,FnOk Tryz.prog (.d kf) [st (keyC x)] (bool (p x)))(hl:l.length≤1000000):Ct Tryz.prog 164 [.own 0,.d kf] [] [(0,.grow 2 (l.map keyC) 26)] (.own 64) [(64,.grow 2 ((l.filter fun x=>!p x).map keyC) 26)]:=by
 rcases zjm p l with⟨h1,h2⟩|⟨i,x,h1,h2,h3,h4⟩
 ·have e:(l.filter fun x=>!p x)=l:=by
   rw[List.filter_eq_self];intro a ha;have:=List.find?_eq_none.1 h2 a ha;simpa using this
  have:=Ct.trunc (Or.inl ⟨rfl,rfl⟩) (Nat.le_refl _) (qnp l kf p hf hl h1);rw[List.take_length]at this;rw[e];exact this
 ·have:=Ct.trunc (Or.inr rfl) (by simp) (qno l kf p hf hl i x h1 h2);rw[List.take_left' (by simp)]at this;exact this
attribute [simp] Tryz.ntmps167 Tryz.results167
theorem qvu (j:Job)(n:Int)(hj:jobB j):Ct Tryz.prog 167 [.d (.pro (jobC j)),int n] [] [] (st (zyx (j.off n))) []:=by
 refine Ct.B Tryz.func167 mixed 1 400 ?_;simp;refine CI.s (tm:=[(0,.d (.pro (jobC j))),(3,.d (.pro [iD n])),(4,.ptr 64 0)]) (mm:=[(64,.cells [int 0,lst [],lst []] 98)]) (nx:=65) [(64,128)] [64] (by constructor<;>simp) ?_;refine CI.run 9999 400 rfl ?_;simp;have e:(j.off n).gone=j.gone.filter fun k=>!(!decide (k.kind=n)):=by simp[Job.off,zig]
 have e1:(j.off n).kind=n:=rfl;have e2:(j.off n).adds=[]:=rfl;have hlen:=hj.2.1;rw[e,e1,e2];clear e e1 e2;generalize j.gone=G at hlen⊢;cases G with
 |nil=>
  refine CI.p zsp Tryz.call218 9999 ?_;simp;refine CI.p (zup (.fn (.func 219) [] [.pro [iD n]])) Tryz.call164 9999 ?_;simp;first|exact fin0 (by simp) rfl|exact zaa (by simp)
 |cons x l=>
  refine CI.cc [] (zqq x l (by simp at hlen;omega)) Tryz.call218 9999 ?_;simp;refine CI.cc [321] (zoz (x::l) (.fn (.func 219) [] [.pro [iD n]]) (fun k=>!decide (k.kind=n)) (fun k hk=>FnOk.clo (by exact off1 n k) Tryz.call219 rfl rfl) hlen) Tryz.call164 9999 ?_;simp;first|exact fin0 (by simp) rfl|exact zaa (by simp)
theorem qvv (j:Job)(n:Int)(x:Key)(l:List Key)(hg:j.gone=x::l)(hj:jobB j):Ct Tryz.prog 167 [.d (.pro (jobC j)),int n] [] [] (.agg [int n,lst [],.own 64]) [(64,.grow 2 ((zig j.gone n).map keyC) 26)]:=by
 refine Ct.B Tryz.func167 mixed 1 400 ?_;simp;refine CI.s (tm:=[(0,.d (.pro (jobC j))),(3,.d (.pro [iD n])),(4,.ptr 64 0)]) (mm:=[(64,.cells [int 0,lst [],lst []] 98)]) (nx:=65) [(64,128)] [64] (by constructor<;>simp) ?_;refine CI.run 9999 400 rfl ?_;simp;have e:zig j.gone n=j.gone.filter fun k=>!(!decide (k.kind=n)):=by simp[zig]
 have hlen:=hj.2.1;rw[e,hg];rw[hg]at hlen;clear e;refine CI.cc [] (zqq x l (by simp at hlen;omega)) Tryz.call218 9999 ?_;simp;refine CI.cc [321] (qnn (x::l) (.fn (.func 219) [] [.pro [iD n]]) (fun k=>!decide (k.kind=n)) (fun k hk=>FnOk.clo (by exact off1 n k) Tryz.call219 rfl rfl) hlen) Tryz.call164 9999 ?_;simp;first| (refine⟨[(64,449)],?_,?_,?_,?_,?_,?_,?_⟩<;>simp[nmF,inB];done)| (refine⟨by decide+kernel,?_⟩;refine⟨[(64,449)],?_,?_,?_,?_,?_,?_,?_⟩<;>simp[nmF,inB])
attribute [simp] Tryz.ntmps103 Tryz.results103
theorem qs8 (j:Job)(n:Int)(hj:jobB j):Ct Tryz.prog 103 [.d (.pro (jobC j)),int n] [] [] (st (zyx (j.doors n))) []:=by
 refine Ct.B Tryz.func103 mixed 9999 400 ?_;simp;refine CI.p (qby j n hj) Tryz.call104 9999 ?_;simp;refine CI.p (qvu j n hj) Tryz.call167 9999 ?_;simp;first|exact fin0 (by simp[Job.doors,Job.late,Job.off]) rfl|exact zaa (by simp[Job.doors,Job.late,Job.off])
attribute [simp] Tryz.ntmps168 Tryz.results168
theorem qyf (j:Job)(k_:Key)(hj:jobB j):Ct Tryz.prog 168 [st (keyC k_),.d (.pro [.pro (jobC j)])] [] [] (bool (!j.freeK k_)) []:=by
 refine Ct.B Tryz.func168 mixed 9999 400 ?_;simp;refine CI.p (qo7 j.held k_ (by have:=hj.2.2.2;omega)) Tryz.call169 9999 ?_;simp;refine sGI (fun h1=>?_) (fun h1=>?_)<;>simp only[h1]<;>simp
 ·have e:(!j.freeK k_)=true:=by simp[Job.freeK,h1]
  rw[e];refine⟨by decide+kernel,?_⟩;first|exact fin0 (by simp) rfl|exact zaa (by simp)
 ·refine CI.p (qlt j.have_ k_ hj.2.2.1) Tryz.call170 9999 ?_;simp;have e:(!j.freeK k_)=decide (0<(zmu j.have_ k_).length):=by simp[Job.freeK,h1]
  rw[e];refine⟨by decide+kernel,?_⟩;first|exact fin0 (by simp) rfl|exact zaa (by simp)
attribute [simp] Tryz.ntmps105 Tryz.results105
theorem zzx (j:Job)(n:Int)(hj:jobB j):Ct Tryz.prog 105 [.d (.pro (jobC j)),int n] [] [] (st (zyx (j.free n))) []:=by
 refine Ct.B Tryz.func105 mixed 1 400 ?_;simp;refine CI.s (tm:=[(1,int n),(2,.d (.pro [.pro (jobC j)])),(4,.ptr 64 0)]) (mm:=[(64,.cells [int 0,lst [],lst []] 98)]) (nx:=65) [(64,128)] [64] (by constructor<;>simp) ?_;refine CI.run 9999 400 rfl ?_;simp;have e:(j.free n).gone=(zig j.gone n).filter fun k=>!(!j.freeK k):=by simp[Job.free]
 have e1:(j.free n).kind=n:=rfl;have e2:(j.free n).adds=[]:=rfl;have hlen:(zig j.gone n).length≤1000000:=Nat.le_trans (zlt _ _) hj.2.1;rw[e,e1,e2];clear e e1 e2;rcases hG:j.gone with _|⟨x,l⟩
 ·have o1:(j.off n).gone=[]:=by simp[Job.off,zig,hG]
  have o2:(j.off n).kind=n:=rfl;have o3:(j.off n).adds=[]:=rfl;have o4:zig [] n=[]:=rfl;refine CI.p (qvu j n hj) Tryz.call167 9999 ?_ (ha:=by simp[o1,o2,o3]);simp[o1,o2,o3];refine CI.p (zup (.fn (.func 168) [] [.pro [.pro (jobC j)]])) Tryz.call164 9999 ?_;simp;first|exact fin0 (by simp[o4]) rfl|exact zaa (by simp[o4])
 ·refine CI.cc [] (qvv j n x l hG hj) Tryz.call167 9999 ?_;simp;refine CI.cc [193] (zoz (zig j.gone n) (.fn (.func 168) [] [.pro [.pro (jobC j)]]) (fun k=>!j.freeK k) (fun k _=>FnOk.clo (by exact qyf j k hj) Tryz.call168 rfl rfl) hlen) Tryz.call164 9999 ?_;simp;first|exact fin0 (by simp[hG]) rfl|exact zaa (by simp[hG])
abbrev fnJ (f:FuncId)(j:List D):D:=.fn (.func f) [.pro j] []
noncomputable abbrev qrm (j:Job):List (List D):=[[lD [[iD 3],[iD 2],[iD 1]],fnJ 102 (jobC j)],[lD [[iD 0]],fnJ 103 (jobC j)],[lD [[iD 3],[iD 2],[iD 1]],fnJ 104 (jobC j)],[lD [[iD 1],[iD 2],[iD 3]],fnJ 105 (jobC j)]]
attribute [simp] Tryz.ntmps57 Tryz.results57
theorem qlz (j:Job):Ct Tryz.prog 57 [.d (.pro (jobC j))] [] [] (lst (qrm j)) []:=by
 refine Ct.B Tryz.func57 mixed 9999 400 ?_;simp;refine CI.opG [128,256,640] 9999 400 rfl rfl (by first|exact .inl rfl|exact .inr ⟨_,_,rfl,by simp⟩|exact .inr ⟨_,_,rfl,by simp[*]⟩) (by simp) ?_;simp[zui,gvB];first|exact fin0 (by simp) rfl|exact zaa (by simp)
attribute [simp] Tryz.ntmps56 Tryz.results56
theorem qtq (hv want:List Res)(held:List Key)(hh:OkRs hv)(hl:hv.length≤1000000)(hw:want.length≤100000)(ha:AscR want):Ct Tryz.prog 56 [lst (hv.map resC),lst (want.map resC),lst (held.map keyC)] [] [] (.d (.pro (jobC (zhp hv want held)))) []:=by
 refine Ct.B Tryz.func56 mixed 9999 400 ?_;simp;refine CI.p (qw5 hv want hh hl (by omega)) Tryz.call101 9999 ?_;simp;refine CI.p (ztn want ha hw) Tryz.call27 9999 ?_;simp;have hrl:(zau want).length≤100000:=Nat.le_trans (List.length_filter_le _ _) hw;refine LoopI.U mixed ((zau want)) (fun k=>[(7,.ptr 64 0),(28,lst ((zau want).map resC)),(29,int (zau want).length),(30,int k.1)]) (fun k=>[(64,.cells [lst ((zem hv want).map resC),lst ((zf9 hv want).map keyC),.own 65,lst (hv.map resC),lst (held.map keyC)] 186),(65,.map true [.int,.str] false (zg0 (((zau want).take k.1).map Res.key)))]) 66 [] (by constructor<;>simp[zhh]) ?_;rintro⟨k,hk1⟩ B hB;refine CI.run 9999 400 rfl ?_;simp[zhh];refine sBI (fun h=>?_) (fun h=>?_)
 ·have hk:k<((zau want)).length:=by simpa using h
  obtain⟨x,hx,hr,hm,ht,hd⟩:=inL hk;have hw:=wr (k:=k) (by omega);simp only[h];simp[hr,hw];refine CI.p (zfr x) Tryz.call46 9999 ?_;simp;refine⟨by decide+kernel,?_⟩;refine hB _ ⟨k+1,by omega⟩ [] ?_ (by simp;omega);constructor<;>simp[hw,ht]
 ·have hkl:k=((zau want)).length:=by simp at h;omega
  subst hkl;simp only[h];simp[List.take_length,List.drop_length];first|exact fin0 (by simp[zhp]) rfl|exact zaa (by simp[zhp])
theorem zz5 {j:Job}(hj:jobB j)(n:Int):(j.early n).adds.length≤1000000∧(j.early n).gone.length≤1000000:=
 ⟨Nat.le_trans (List.length_filter_le _ _) (Nat.le_trans (zi1 _ _) hj.1),by simp[Job.early]⟩
theorem qir {j:Job}(hj:jobB j)(n:Int):(j.late n).adds.length≤1000000∧(j.late n).gone.length≤1000000:=
 ⟨Nat.le_trans (zi1 _ _) hj.1,by simp[Job.late]⟩
theorem qs9 {j:Job}(hj:jobB j)(n:Int):(j.doors n).adds.length≤1000000∧(j.doors n).gone.length≤1000000:=
 ⟨Nat.le_trans (zi1 _ _) hj.1,Nat.le_trans (zlt _ _) hj.2.1⟩
theorem qjf {j:Job}(hj:jobB j)(n:Int):(j.free n).adds.length≤1000000∧(j.free n).gone.length≤1000000:=
 ⟨by simp[Job.free],Nat.le_trans (List.length_filter_le _ _) (Nat.le_trans (zlt _ _) hj.2.1)⟩
theorem qh7 (hv want:List Res)(held:List Key)(hh:OkRs hv)(hl:hv.length≤1000000)(hw:want.length≤100000)(ha:AscR want)(hd:held.length≤1000000):Ct Tryz.prog 24 [lst (hv.map resC),lst (want.map resC),lst (held.map keyC)] [] [] (.tup [st (zyx ((zlh hv want held).getD ⟨0,[],[]⟩)),bool (zlh hv want held).isSome]) []:=by
 refine Ct.of_body Tryz.func24 rfl mixed (by rw[Tryz.ntmps24];simp) (CI.seqScope mixed (Plain.retC _ _ _ _ _) rfl (CI.run 9999 400 rfl ?_));simp;refine CI.p (qtq hv want held hh hl hw ha) Tryz.call56 9999 ?_;simp;refine CI.p (qlz (zhp hv want held)) Tryz.call57 9999 ?_;simp;have hn:zlh hv want held=(zhp hv want held).steps.find? fun s=>!s.none:=rfl;have hj:jobB (zhp hv want held):=⟨Nat.le_trans (diffA_len _ _) (by omega),Nat.le_trans (diffG_len _ _) hl,hl,hd⟩;rw[hn];clear hn;generalize zhp hv want held=j at hj⊢;refine LoopI.unroll mixed (Plain.retC _ _ _ _ _) rfl ?_;refine CI.run 9999 400 rfl ?_;simp;refine LoopI.unroll mixed (Plain.retC _ _ _ _ _) rfl ?_;refine CI.run 9999 400 rfl ?_;simp;refine CI.ff (FnOk.bnd (args:=[int 3]) (first:=[.pro (jobC j)]) (by exact zz4 j 3 hj) Tryz.call102 rfl rfl) rfl rfl rfl 9999 ?_;simp;refine CI.p (zg1 (j.early 3) (zz5 hj 3)) Tryz.call58 9999 ?_;simp;refine sBI (fun h1=>?_) (fun h1=>?_)<;>simp only[h1]<;>simp
 ·have h1':(j.early 3).none=false:=by simpa using h1
  have e:(j.steps.find? fun s=>!s.none)=some (j.early 3):=by simp[Job.steps,List.find?_cons,h1']
  first|exact fin0 (by simp[e]) rfl|exact zaa (by simp[e])
 have h1':(j.early 3).none=true:=by simpa using h1
 refine LoopI.unroll mixed (Plain.retC _ _ _ _ _) rfl ?_;refine CI.run 9999 400 rfl ?_;simp;refine CI.ff (FnOk.bnd (args:=[int 2]) (first:=[.pro (jobC j)]) (by exact zz4 j 2 hj) Tryz.call102 rfl rfl) rfl rfl rfl 9999 ?_;simp;refine CI.p (zg1 (j.early 2) (zz5 hj 2)) Tryz.call58 9999 ?_;simp;refine sBI (fun h2=>?_) (fun h2=>?_)<;>simp only[h2]<;>simp
 ·have h2':(j.early 2).none=false:=by simpa using h2
  have e:(j.steps.find? fun s=>!s.none)=some (j.early 2):=by simp[Job.steps,List.find?_cons,h1',h2']
  first|exact fin0 (by simp[e]) rfl|exact zaa (by simp[e])
 have h2':(j.early 2).none=true:=by simpa using h2
 refine LoopI.unroll mixed (Plain.retC _ _ _ _ _) rfl ?_;refine CI.run 9999 400 rfl ?_;simp;refine CI.ff (FnOk.bnd (args:=[int 1]) (first:=[.pro (jobC j)]) (by exact zz4 j 1 hj) Tryz.call102 rfl rfl) rfl rfl rfl 9999 ?_;simp;refine CI.p (zg1 (j.early 1) (zz5 hj 1)) Tryz.call58 9999 ?_;simp;refine sBI (fun h3=>?_) (fun h3=>?_)<;>simp only[h3]<;>simp
 ·have h3':(j.early 1).none=false:=by simpa using h3
  have e:(j.steps.find? fun s=>!s.none)=some (j.early 1):=by simp[Job.steps,List.find?_cons,h1',h2',h3']
  first|exact fin0 (by simp[e]) rfl|exact zaa (by simp[e])
 have h3':(j.early 1).none=true:=by simpa using h3
 refine LoopI.unroll mixed (Plain.retC _ _ _ _ _) rfl ?_;refine CI.run 9999 400 rfl ?_;simp;refine LoopI.unroll mixed (Plain.retC _ _ _ _ _) rfl ?_;refine CI.run 9999 400 rfl ?_;simp;refine LoopI.unroll mixed (Plain.retC _ _ _ _ _) rfl ?_;refine CI.run 9999 400 rfl ?_;simp;refine CI.ff (FnOk.bnd (args:=[int 0]) (first:=[.pro (jobC j)]) (by exact qs8 j 0 hj) Tryz.call103 rfl rfl) rfl rfl rfl 9999 ?_;simp;refine CI.p (zg1 (j.doors 0) (qs9 hj 0)) Tryz.call58 9999 ?_;simp;refine sBI (fun h4=>?_) (fun h4=>?_)<;>simp only[h4]<;>simp
 ·have h4':(j.doors 0).none=false:=by simpa using h4
  have e:(j.steps.find? fun s=>!s.none)=some (j.doors 0):=by simp[Job.steps,List.find?_cons,h1',h2',h3',h4']
  first|exact fin0 (by simp[e]) rfl|exact zaa (by simp[e])
 have h4':(j.doors 0).none=true:=by simpa using h4
 refine LoopI.unroll mixed (Plain.retC _ _ _ _ _) rfl ?_;refine CI.run 9999 400 rfl ?_;simp;refine LoopI.unroll mixed (Plain.retC _ _ _ _ _) rfl ?_;refine CI.run 9999 400 rfl ?_;simp;refine LoopI.unroll mixed (Plain.retC _ _ _ _ _) rfl ?_;refine CI.run 9999 400 rfl ?_;simp;refine CI.ff (FnOk.bnd (args:=[int 3]) (first:=[.pro (jobC j)]) (by exact qby j 3 hj) Tryz.call104 rfl rfl) rfl rfl rfl 9999 ?_;simp;refine CI.p (zg1 (j.late 3) (qir hj 3)) Tryz.call58 9999 ?_;simp;refine sBI (fun h5=>?_) (fun h5=>?_)<;>simp only[h5]<;>simp
 ·have h5':(j.late 3).none=false:=by simpa using h5
  have e:(j.steps.find? fun s=>!s.none)=some (j.late 3):=by simp[Job.steps,List.find?_cons,h1',h2',h3',h4',h5']
  first|exact fin0 (by simp[e]) rfl|exact zaa (by simp[e])
 have h5':(j.late 3).none=true:=by simpa using h5
 refine LoopI.unroll mixed (Plain.retC _ _ _ _ _) rfl ?_;refine CI.run 9999 400 rfl ?_;simp;refine CI.ff (FnOk.bnd (args:=[int 2]) (first:=[.pro (jobC j)]) (by exact qby j 2 hj) Tryz.call104 rfl rfl) rfl rfl rfl 9999 ?_;simp;refine CI.p (zg1 (j.late 2) (qir hj 2)) Tryz.call58 9999 ?_;simp;refine sBI (fun h6=>?_) (fun h6=>?_)<;>simp only[h6]<;>simp
 ·have h6':(j.late 2).none=false:=by simpa using h6
  have e:(j.steps.find? fun s=>!s.none)=some (j.late 2):=by simp[Job.steps,List.find?_cons,h1',h2',h3',h4',h5',h6']
  first|exact fin0 (by simp[e]) rfl|exact zaa (by simp[e])
 have h6':(j.late 2).none=true:=by simpa using h6
 refine LoopI.unroll mixed (Plain.retC _ _ _ _ _) rfl ?_;refine CI.run 9999 400 rfl ?_;simp;refine CI.ff (FnOk.bnd (args:=[int 1]) (first:=[.pro (jobC j)]) (by exact qby j 1 hj) Tryz.call104 rfl rfl) rfl rfl rfl 9999 ?_;simp;refine CI.p (zg1 (j.late 1) (qir hj 1)) Tryz.call58 9999 ?_;simp;refine sBI (fun h7=>?_) (fun h7=>?_)<;>simp only[h7]<;>simp
 ·have h7':(j.late 1).none=false:=by simpa using h7
  have e:(j.steps.find? fun s=>!s.none)=some (j.late 1):=by simp[Job.steps,List.find?_cons,h1',h2',h3',h4',h5',h6',h7']
  first|exact fin0 (by simp[e]) rfl|exact zaa (by simp[e])
 have h7':(j.late 1).none=true:=by simpa using h7
 refine LoopI.unroll mixed (Plain.retC _ _ _ _ _) rfl ?_;refine CI.run 9999 400 rfl ?_;simp;refine LoopI.unroll mixed (Plain.retC _ _ _ _ _) rfl ?_;refine CI.run 9999 400 rfl ?_;simp;refine LoopI.unroll mixed (Plain.retC _ _ _ _ _) rfl ?_;refine CI.run 9999 400 rfl ?_;simp;refine CI.ff (FnOk.bnd (args:=[int 1]) (first:=[.pro (jobC j)]) (by exact zzx j 1 hj) Tryz.call105 rfl rfl) rfl rfl rfl 9999 ?_;simp;refine CI.p (zg1 (j.free 1) (qjf hj 1)) Tryz.call58 9999 ?_;simp;refine sBI (fun h8=>?_) (fun h8=>?_)<;>simp only[h8]<;>simp
 ·have h8':(j.free 1).none=false:=by simpa using h8
  have e:(j.steps.find? fun s=>!s.none)=some (j.free 1):=by simp[Job.steps,List.find?_cons,h1',h2',h3',h4',h5',h6',h7',h8']
  first|exact fin0 (by simp[e]) rfl|exact zaa (by simp[e])
 have h8':(j.free 1).none=true:=by simpa using h8
 refine LoopI.unroll mixed (Plain.retC _ _ _ _ _) rfl ?_;refine CI.run 9999 400 rfl ?_;simp;refine CI.ff (FnOk.bnd (args:=[int 2]) (first:=[.pro (jobC j)]) (by exact zzx j 2 hj) Tryz.call105 rfl rfl) rfl rfl rfl 9999 ?_;simp;refine CI.p (zg1 (j.free 2) (qjf hj 2)) Tryz.call58 9999 ?_;simp;refine sBI (fun h9=>?_) (fun h9=>?_)<;>simp only[h9]<;>simp
 ·have h9':(j.free 2).none=false:=by simpa using h9
  have e:(j.steps.find? fun s=>!s.none)=some (j.free 2):=by simp[Job.steps,List.find?_cons,h1',h2',h3',h4',h5',h6',h7',h8',h9']
  first|exact fin0 (by simp[e]) rfl|exact zaa (by simp[e])
 have h9':(j.free 2).none=true:=by simpa using h9
 refine LoopI.unroll mixed (Plain.retC _ _ _ _ _) rfl ?_;refine CI.run 9999 400 rfl ?_;simp;refine CI.ff (FnOk.bnd (args:=[int 3]) (first:=[.pro (jobC j)]) (by exact zzx j 3 hj) Tryz.call105 rfl rfl) rfl rfl rfl 9999 ?_;simp;refine CI.p (zg1 (j.free 3) (qjf hj 3)) Tryz.call58 9999 ?_;simp;refine sBI (fun h10=>?_) (fun h10=>?_)<;>simp only[h10]<;>simp
 ·have h10':(j.free 3).none=false:=by simpa using h10
  have e:(j.steps.find? fun s=>!s.none)=some (j.free 3):=by simp[Job.steps,List.find?_cons,h1',h2',h3',h4',h5',h6',h7',h8',h9',h10']
  first|exact fin0 (by simp[e]) rfl|exact zaa (by simp[e])
 have h10':(j.free 3).none=true:=by simpa using h10
 refine LoopI.unroll mixed (Plain.retC _ _ _ _ _) rfl ?_;refine CI.run 9999 400 rfl ?_;simp;refine LoopI.unroll mixed (Plain.retC _ _ _ _ _) rfl ?_;refine CI.run 9999 400 rfl ?_;simp;have e:(j.steps.find? fun s=>!s.none)=none:=by simp[Job.steps,List.find?_cons,h1',h2',h3',h4',h5',h6',h7',h8',h9',h10']
 first|exact fin0 (by simp[e]) rfl|exact zaa (by simp[e])
end Go.Proofs.YtjoaclgkjhncjaaGreatDoor
namespace Go.Proofs.YtjoaclgkjhncjaaGreatDoor
open Go.AI Go.G
set_option maxRecDepth 20000
attribute [simp] Tryz.ntmps175 Tryz.results175
theorem qva (s:Sess)(p:Store)(hs:OkSess s)(hl:s.v.have_.length≤1000000)(hpl:p.hist.length≤1000000)(hx:idle (zbm s) p=false→AscR (nowL p)∧(nowL p).length≤100000):Ct Tryz.prog 175 [st (zfb s),st (zbg p)] [] [] (.tup [st (zfb (pump s p).1),lst ((pump s p).2.1.map zam),int (pump s p).2.2]) []:=by
 refine Ct.B Tryz.func175 mixed 9999 400 ?_;simp;refine CI.p (ztb s hs hl) Tryz.call55 9999 ?_;simp;have hq0:=zph s;have hqo:=zvn hs;have hh:pump s p=zf3 (zbm s) p:=rfl;rw[hh];clear hh;generalize zbm s=q at hq0 hqo hx⊢;have S:=saneS_iff.1 hq0;have b1:=S.hl;have b2:=S.dl;refine CI.p (ztx p hpl) Tryz.call22 9999 ?_;simp;refine sGI (fun h1=>?_) (fun h1=>?_)<;>simp only[h1]<;>simp
 ·have hi:idle q p=true:=by
   have:q.greeted=false:=by simpa using h1
   simp[idle,this]
  first|exact fin0 (by simp[zf3,hi]) rfl|exact zaa (by simp[zf3,hi])
 have h1':q.greeted=true:=by simpa using h1
 refine sGI (fun h2=>?_) (fun h2=>?_)<;>simp only[h2]<;>simp
 ·have hi:idle q p=true:=by simp[idle,h2]
  first|exact fin0 (by simp[zf3,hi,h2]) rfl|exact zaa (by simp[zf3,hi,h2])
 refine sGI (fun h3=>?_) (fun h3=>?_)<;>simp only[h3]<;>simp
 ·have h3':¬q.stuck=0:=by simpa using h3
  refine sBI (fun h4=>?_) (fun h4=>?_)<;>simp only[h4]<;>simp
  ·have h4':q.at_=nowI p:=by simpa[nowI]using h4
   have hi:idle q p=true:=by simp[idle,h3',h4']
   first|exact fin0 (by simp[zf3,hi,h2]) rfl|exact zaa (by simp[zf3,hi,h2])
  have h4':¬q.at_=nowI p:=by simpa[nowI]using h4
  have hi:idle q p=false:=by simp[idle,h1',h2,h4']
  obtain⟨ha,hw⟩:=hx hi;refine CI.p (qh7 q.v.have_ (nowL p) q.v.held hqo.v.have_ (by omega) hw ha (by omega)) Tryz.call24 9999 ?_ (ha:=by simp[nowL]);simp[nowL];rcases hn:zlh q.v.have_ (zbf (za5 p)) q.v.held with _|x
  ·simp;first|exact fin0 (by simp[zf3,hi,h2,nowL,hn]) rfl|exact zaa (by simp[zf3,hi,h2,nowL,hn])
  ·simp;refine CI.p (qh0 q.out x.kind) Tryz.call225 9999 ?_;simp;refine sBI (fun h5=>?_) (fun h5=>?_)<;>simp only[h5]<;>simp<;>(try simp only[nT,nF,dT,dF]at h5)
   ·first|exact fin0 (by simp[zf3,hi,h2,nowL,hn,zk9,h5]) rfl|exact zaa (by simp[zf3,hi,h2,nowL,hn,zk9,h5])
   ·refine CI.p (qon q.v (zfn q x (Nonce.push q.out x.kind).2.1)) Tryz.call226 9999 ?_ (ha:=by simp[zfn,h2]);simp[zfn,h2];refine⟨by decide+kernel,?_⟩;first|exact fin0 (by simp[zf3,hi,h2,nowL,hn,zk9,h5,zfn,zn5]) rfl|exact zaa (by simp[zf3,hi,h2,nowL,hn,zk9,h5,zfn,zn5])
 ·have h3':q.stuck=0:=by simpa using h3
  have hi:idle q p=false:=by simp[idle,h1',h2,h3']
  obtain⟨ha,hw⟩:=hx hi;refine CI.p (qh7 q.v.have_ (nowL p) q.v.held hqo.v.have_ (by omega) hw ha (by omega)) Tryz.call24 9999 ?_ (ha:=by simp[nowL]);simp[nowL];rcases hn:zlh q.v.have_ (zbf (za5 p)) q.v.held with _|x
  ·simp;first|exact fin0 (by simp[zf3,hi,h2,nowL,hn]) rfl|exact zaa (by simp[zf3,hi,h2,nowL,hn])
  ·simp;refine CI.p (qh0 q.out x.kind) Tryz.call225 9999 ?_;simp;refine sBI (fun h5=>?_) (fun h5=>?_)<;>simp only[h5]<;>simp<;>(try simp only[nT,nF,dT,dF]at h5)
   ·first|exact fin0 (by simp[zf3,hi,h2,nowL,hn,zk9,h5]) rfl|exact zaa (by simp[zf3,hi,h2,nowL,hn,zk9,h5])
   ·refine CI.p (qon q.v (zfn q x (Nonce.push q.out x.kind).2.1)) Tryz.call226 9999 ?_ (ha:=by simp[zfn,h2]);simp[zfn,h2];refine⟨by decide+kernel,?_⟩;first|exact fin0 (by simp[zf3,hi,h2,nowL,hn,zk9,h5,zfn,zn5]) rfl|exact zaa (by simp[zf3,hi,h2,nowL,hn,zk9,h5,zfn,zn5])
attribute [simp] Tryz.ntmps114 Tryz.results114
theorem zet (s:Sess)(hs:OkSess s)(hl:s.v.have_.length≤1000000):Ct Tryz.prog 114 [st (zfb s)] [] [] (lst ((zae s).map zam)) []:=by
 refine Ct.B Tryz.func114 mixed 9999 400 ?_;simp;refine CI.p (ztb s hs hl) Tryz.call55 9999 ?_;simp;refine sBI (fun h1=>?_) (fun h1=>?_)<;>simp only[h1]<;>simp
 ·have h1':(zbm s).v.open_=false:=by simpa using h1
  first|exact fin0 (by simp[zae,h1']) rfl|exact zaa (by simp[zae,h1'])
 ·have h1':(zbm s).v.open_=true:=by simpa using h1
  first|exact fin0 (by simp[zae,h1']) rfl|exact zaa (by simp[zae,h1'])
end Go.Proofs.YtjoaclgkjhncjaaGreatDoor
