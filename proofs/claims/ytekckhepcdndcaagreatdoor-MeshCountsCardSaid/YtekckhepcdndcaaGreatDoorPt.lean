/-
  LAYER 24: what holds of each side of a mesh behind whatever steps, plainly.
-/
import Derived.Test.YtekckhepcdndcaaGreatDoorPq
set_option linter.unusedSimpArgs false
set_option linter.unusedVariables false
namespace Go.G
open Go.AI
def UpF (e:Int)(l:List Frame):Prop:=∀g∈l,g.type≠1∧g.epoch=e
def DnF (e:Int)(l:List Frame):Prop:=∀g∈l,g.type=1∧g.epoch=e
theorem UpF.nil (e:Int):UpF e []:=by intro g hg;cases hg
theorem DnF.nil (e:Int):DnF e []:=by intro g hg;cases hg
theorem qda (s:Side)(e:Int):UpF e (zay s e).2.1:=by
 unfold zay zcw;split
 ·exact .nil _
 split
 ·exact .nil _
 ·intro g hg;simp only[List.mem_cons,List.not_mem_nil,or_false]at hg;rcases hg with rfl|rfl
  ·exact⟨by simp[zln],rfl⟩
  ·exact⟨by simp[qa8],rfl⟩
theorem qn6 {s:Side}{f:Frame}(h:zbs s f=0)(t:Side):UpF s.epoch (ackX t f).2:=by
 intro g hg;simp only[ackX,List.mem_singleton]at hg;subst hg;refine⟨by simp,?_⟩;unfold zbs at h;split at h
 ·cases h
 split at h
 ·exact absurd h ‹_›
 split at h
 ·cases h
 rename_i he;simpa using he
theorem qjm (s:Side)(f:Frame):(zf0 s f).1.epoch=s.epoch:=by
 unfold zf0;dsimp only
 repeat' split
 all_goals rfl
theorem qpi (s:Side)(f:Frame):UpF (soundX s).epoch (zh0 s f).2.1∧(zh0 s f).1.epoch=(soundX s).epoch:=by
 unfold zh0;generalize soundX s=s;unfold zgs;split
 ·exact⟨.nil _,rfl⟩
 rename_i hr;have hr:=Decidable.not_not.1 hr;dsimp only;split
 ·split
  ·exact⟨.nil _,rfl⟩
  split
  ·exact⟨.nil _,rfl⟩
  ·exact⟨qn6 hr _,by show(zf0 s f).1.epoch=_;exact qjm s f⟩
 ·split
  ·split
   ·exact⟨.nil _,rfl⟩
   ·exact⟨qn6 hr _,rfl⟩
  ·exact⟨.nil _,rfl⟩
theorem qvw (s:Side)(id:Int):UpF (soundX s).epoch (endX s id).2.1∧(endX s id).1.epoch=(soundX s).epoch:=by
 unfold endX;generalize soundX s=s;unfold endQ;dsimp only;split
 ·exact⟨.nil _,rfl⟩
 ·refine⟨?_,rfl⟩;intro g hg;simp only[List.mem_singleton]at hg;subst hg;exact⟨by simp,rfl⟩
theorem qke (s:Sess)(x:Step):DnF s.epoch (zk1 s x).2.1∧(zk1 s x).1.epoch=s.epoch:=by
 unfold zk1;split
 ·refine⟨?_,rfl⟩;intro g hg;simp only[List.mem_singleton]at hg;subst hg;exact⟨rfl,rfl⟩
 ·exact⟨.nil _,rfl⟩
theorem qp3 (s:Sess)(p:Store):DnF (zbg s).epoch (pump s p).2.1∧(pump s p).1.epoch=(zbg s).epoch:=by
 unfold pump;generalize zbg s=s;unfold ze6;split
 ·exact⟨.nil _,rfl⟩
 split
 ·exact⟨.nil _,rfl⟩
 ·exact qke _ _
theorem qfs {s:Sess}(h:zbt s=true):DnF s.epoch (zaf s):=by
 unfold zaf;rw[zc1 h];split
 ·rename_i ho;have w:=(saneS_iff.1 h).waits ho;simp only[zbj,Bool.and_eq_true,decide_eq_true_eq]at w;intro g hg;simp only[List.mem_singleton]at hg;subst hg;exact⟨w.1.1.1.2,w.1.1.2⟩
 ·exact .nil _
theorem qhw (s:Sess)(p:Store)(f:Frame):(handle s p f).1.epoch=(zbg s).epoch:=by
 unfold handle;generalize zbg s=s;unfold zck zgc ackH zjs
 repeat' split
 all_goals rfl
structure UpW (e:Int)(w:Work):Prop where
 hs:zb0 w.s=true
 he:w.s.epoch=e
 up:UpF e w.told
theorem zq1 {n:Int}:∀{l:List Snap} {a:Int} {s:Snap},za6 n a (l++[s])=true→s.pins<10000→za6 n a (l++[{s with pins:=s.pins+1}])=true
 |[],a,s,h,hp=>by
  simp[za6]at h⊢;omega
 |x::l,a,s,h,hp=>by
  simp only[List.cons_append,za6,Bool.and_eq_true,decide_eq_true_eq]at h⊢;refine⟨⟨⟨h.1.1.1,?_⟩,h.1.2⟩,zq1 h.2 hp⟩;have:=h.1.1.2;simpa using this
theorem zq0 {n:Int}:∀{l:List Snap} {a:Int} {k:Nat} {s:Snap},za6 n a l=true→l[k]? =some s→1≤s.pins→(k+1=l.length∨2≤s.pins)→za6 n a (l.set k {s with pins:=s.pins-1})=true
 |[],_,_,_,_,h,_,_=>by simp at h
 |x::l,a,0,s,h,hk,h1,h2=>by
  simp only[List.getElem?_cons_zero,Option.some.injEq]at hk;subst hk;simp only[List.set_cons_zero,za6,Bool.and_eq_true,decide_eq_true_eq]at h⊢;have h5:=h.1.2;refine⟨⟨⟨h.1.1.1,?_⟩,(by omega:x.pins-1≤10000)⟩,h.2⟩;split
  ·exact(by omega:(0:Int)≤x.pins-1)
  ·rename_i hl;rcases h2 with h2|h2
   ·have:0<l.length:=List.length_pos_iff.2 hl;simp only[List.length_cons]at h2;omega
   ·exact(by omega:(1:Int)≤x.pins-1)
 |x::l,a,k+1,s,h,hk,h1,h2=>by
  simp only[List.getElem?_cons_succ]at hk;simp only[List.set_cons_succ,za6,Bool.and_eq_true,decide_eq_true_eq]at h⊢;refine⟨⟨⟨h.1.1.1,?_⟩,h.1.2⟩,zq0 h.2 hk h1 (by simpa using h2)⟩;have:=h.1.1.2;have hl:l≠[]:=by intro e;rw[e]at hk;simp at hk
  rw[if_neg hl]at this;split<;>omega
theorem zm1 {n:Int}:∀{l:List Snap} {a:Int} {k:Nat},za6 n a l=true→k+1≠l.length→za6 n a (l.eraseIdx k)=true
 |[],_,_,_,_=>by simp[za6]
 |x::l,a,0,h,_=>by
  simp only[za6,Bool.and_eq_true,decide_eq_true_eq]at h;simp only[List.eraseIdx_cons_zero];exact zot (by omega) h.2
 |x::l,a,k+1,h,hk=>by
  simp only[List.eraseIdx_cons_succ,za6,Bool.and_eq_true,decide_eq_true_eq]at h⊢;refine⟨⟨⟨h.1.1.1,?_⟩,h.1.2⟩,zm1 h.2 (by simpa using hk)⟩;have:=h.1.1.2;by_cases hl:l=[]
  ·rw[if_pos hl]at this;subst hl;simpa using this
  ·rw[if_neg hl]at this;split<;>omega
theorem zwa (p:Pins):Asc (zdz p)∧∀x,x∈zdz p↔∃s∈(zax p).snaps,∃r∈s.l,r.key=x:=by
 have h:=zio (((zax p).snaps.flatMap (·.l)).map Res.key) (o:=[]) (by simp[Asc]);refine⟨h.1,fun x=>?_⟩;unfold zdz qrs;rw[h.2];simp only[List.not_mem_nil,false_or,List.mem_map,List.mem_flatMap];constructor
 ·rintro⟨r,⟨s,hs,hr⟩,rfl⟩;exact⟨s,hs,r,hr,rfl⟩
 ·rintro⟨s,hs,r,hr,rfl⟩;exact⟨r,⟨s,hs,hr⟩,rfl⟩
theorem qj9 {p q:Pins}(h:∀k∈zdz q,k∈zdz p)(hr:zqa p=true):zqa q=true:=by
 have r:=room_iff.1 hr;exact room_iff.2 ⟨Nat.le_trans (zhm (zw6 (zwa q).1) h) r.1,fun k hk=>r.2 k (h k hk)⟩
theorem zmb {x:Side}(hx:zb0 x=true){q:Pins}(h1:zhf q=true)(h2:∀s∈q.snaps,∃t∈x.p.snaps,s.l=t.l)(h3:(q.snaps.getLast?).map Snap.l=(x.p.snaps.getLast?).map Snap.l):zb0 {x with p:=q}=true:=by
 have X:=saneX_iff.1 hx;refine saneX_iff.2 ⟨X.epoch,X.turn,X.errs,X.inn,X.w,h1,qj9 (p:=x.p) (fun k hk=>?_) X.room,?_⟩
 ·rw[(zwa _).2]at hk⊢;rw[zff h1]at hk;rw[zff X.p];obtain⟨s,hs,r,hr,rfl⟩:=hk;obtain⟨t,ht,e⟩:=h2 s hs;exact⟨t,ht,r,e▸hr,rfl⟩
 ·have a:=X.agrees;unfold zd2 curP at a⊢;rw[zff X.p]at a;simp only;rw[zff h1];cases h4:q.snaps.getLast? with
  |none=>
   rw[h4]at h3;cases h5:x.p.snaps.getLast? with
   |none=>rw[h5]at a;exact a
   |some t=>rw[h5]at h3;simp at h3
  |some s=>
   rw[h4]at h3;cases h5:x.p.snaps.getLast? with
   |none=>rw[h5]at h3;simp at h3
   |some t=>
    rw[h5]at h3 a;simp only[Option.map_some,Option.some.injEq]at h3;simp only at a⊢;rw[h3];exact a
theorem zqz {n:Int}:∀{l:List Snap} {a:Int},za6 n a l=true→∀s∈l,s.pins≤10000
 |[],_,_,s,hs=>by cases hs
 |x::l,a,h,s,hs=>by
  simp only[za6,Bool.and_eq_true,decide_eq_true_eq]at h;rcases List.mem_cons.1 hs with e|e
  ·subst e;exact h.1.2
  ·exact zqz h.2 s e
theorem qgc {x:Side}(hx:zb0 x=true):zb0 {x with p:=(pinP x.p).1}=true:=by
 have X:=saneX_iff.1 hx;have hp:=saneP_iff.1 X.p;unfold pinP;rw[zff X.p];unfold pinQ;split
 ·exact hx
 ·rename_i s hs;split
  ·exact hx
  ·rename_i h0;have hm:s∈x.p.snaps:=List.mem_of_getLast? hs;have hl:x.p.snaps=x.p.snaps.dropLast++[s]:=by
    have hne:x.p.snaps≠[]:=by intro e;rw[e]at hs;simp at hs
    have:=List.dropLast_concat_getLast hne;rw[List.getLast?_eq_some_getLast hne]at hs;simp only[Option.some.injEq]at hs;rw[hs]at this;exact this.symm
   have ht:=zqz hp.1 s hm;have h1:=hp.1;rw[hl]at h1;refine zmb hx (saneP_iff.2 ⟨zq1 h1 (by omega),hp.2.1,?_⟩) ?_ ?_
   ·have:=congrArg List.length hl;simp at this⊢;have:=hp.2.2;omega
   ·intro t ht;simp only[List.mem_append,List.mem_singleton]at ht;rcases ht with ht|rfl
    ·exact⟨t,List.dropLast_subset _ ht,rfl⟩
    ·exact⟨s,hm,rfl⟩
   ·simp[hs]
theorem qfw {x:Side}(hx:zb0 x=true)(id:Int):zb0 {x with p:=(relP x.p id).1}=true:=by
 have X:=saneX_iff.1 hx;have hp:=saneP_iff.1 X.p;unfold relP;rw[zff X.p];unfold relQ;split
 ·exact hx
 rename_i hn;split
 ·exact hx
 rename_i s hs;have hm:s∈x.p.snaps:=List.mem_of_getElem? hs;have hk:(zb4 x.p id).toNat<x.p.snaps.length:=(List.getElem?_eq_some_iff.1 hs).1;have h0:=zi1 hp.1 s hm;split
 ·exact hx
 rename_i hz;split
 ·rename_i h;refine zmb hx (saneP_iff.2 ⟨zm1 hp.1 (by omega),hp.2.1,?_⟩) ?_ ?_
  ·have:=List.length_eraseIdx_le x.p.snaps (zb4 x.p id).toNat;have:=hp.2.2;simp only;omega
  ·intro t ht;exact⟨t,List.mem_of_mem_eraseIdx ht,rfl⟩
  ·simp only;rw[List.getLast?_eq_getElem?,List.getLast?_eq_getElem?,List.length_eraseIdx_of_lt hk,List.getElem?_eraseIdx_of_ge (by omega)];congr 2
   omega
 ·rename_i h;refine zmb hx (saneP_iff.2 ⟨zq0 hp.1 hs (by omega) (by omega),hp.2.1,by simpa using hp.2.2⟩) ?_ ?_
  ·intro t ht;rcases List.mem_or_eq_of_mem_set ht with g|g
   ·exact⟨t,g,rfl⟩
   ·subst g;exact⟨s,hm,rfl⟩
  ·simp only;rw[List.getLast?_eq_getElem?,List.getLast?_eq_getElem?,List.length_set];by_cases e:(zb4 x.p id).toNat=x.p.snaps.length-1
   ·rw[←e,List.getElem?_set_self hk,hs];rfl
   ·rw[List.getElem?_set_ne e]
theorem qie {x:Side}(hx:zb0 x=true)(id:Int):zb0 (endX x id).1=true:=by
 unfold endX;rw[zc0 hx];unfold endQ;dsimp only;have h:=qfw hx id;split
 ·exact h
 ·rename_i hc;simp only[Bool.or_eq_true,not_or,zmo,decide_eq_true_eq]at hc;have H:=saneX_iff.1 h;have t:=rngB_iff.1 H.turn;have hf:=hc.2;exact saneX_iff.2 ⟨H.epoch,rngB_iff.2 ⟨by simp only[zhy]at*;omega,by simp only[zhy]at*;omega⟩,H.errs,H.inn,H.w,H.p,H.room,H.agrees⟩
theorem UpW.done {e:Int}{w:Work}(h:UpW e w)(ht:w.told=[])(a:Ans):UpW e (zf2 w a):=by
 unfold zf2;split
 ·exact⟨h.hs,h.he,h.up⟩
 ·have q:=qvw w.s w.r.id;rw[zc0 h.hs,h.he]at q;exact⟨qie h.hs _,q.2,q.1⟩
theorem UpW.step {e:Int}{w:Work}(h:UpW e w)(ht:w.told=[]):UpW e (stepQ w):=by
 unfold stepQ ziw zfr zm5 zit;dsimp only
 repeat' split
 all_goals first
  |exact h.done ht _
  |exact⟨h.hs,h.he,h.up⟩
  | (refine⟨?_,?_,h.up⟩
     ·have:=qgc h.hs;simp only[zfx];rw[zc0 h.hs];exact this
     ·simp only[zfx];rw[zc0 h.hs];exact h.he)
theorem qjn (r:Req){s:Side}(hs:zb0 s=true):UpW s.epoch (zfd r s):=by
 unfold zfd;rw[zc0 hs];exact UpW.step (w:=⟨zeo r,s,[]⟩) ⟨hs,rfl,.nil _⟩ rfl
theorem qqc (p:Pool){s:Side}(hs:zb0 s=true)(draw:Int):zb0 (zfn p s draw).2.1=true∧(zfn p s draw).2.1.epoch=s.epoch∧UpF s.epoch (zfn p s draw).2.2.1:=by
 unfold zfn;split
 ·exact⟨hs,rfl,.nil _⟩
 ·rename_i t ht;have w:=qjn t.r hs;dsimp only;split
  ·exact⟨w.hs,w.he,w.up⟩
  ·exact⟨w.hs,w.he,w.up⟩
theorem qe1 {s:Side}(hs:zb0 s=true)(f:Frame):(zh0 s f).1.turn≤s.turn+1:=by
 have h:(zf0 s f).1.turn=s.turn:=by
  unfold zf0;dsimp only
  repeat' split
  all_goals rfl
 unfold zh0;rw[zc0 hs];unfold zgs;dsimp only
 repeat' split
 all_goals first
  | (simp only[ackX,zhy];omega)
  | (show s.turn≤s.turn+1;omega)
theorem ql8 {s:Side}(hs:zb0 s=true)(id:Int):(endX s id).1.turn≤s.turn+1:=by
 unfold endX;rw[zc0 hs];unfold endQ;dsimp only;split
 ·show s.turn≤s.turn+1;omega
 ·show s.turn+1≤s.turn+1;omega
theorem qii {w:Work}(hs:zb0 w.s=true)(a:Ans):(zf2 w a).s.turn≤w.s.turn+1:=by
 unfold zf2;split
 ·show w.s.turn≤w.s.turn+1;omega
 ·exact ql8 hs _
theorem qgd (p:Pool){s:Side}(hs:zb0 s=true)(draw:Int):(zfn p s draw).2.1.turn≤s.turn+1:=by
 have key:∀r:Req,(zfd r s).s.turn≤s.turn+1:=by
  intro r;unfold zfd;rw[zc0 hs];generalize hw:(⟨zeo r,s,[]⟩:Work)=w;have e:w.s=s:=by rw[←hw]
  have h1:zb0 w.s=true:=by rw[e];exact hs
  rw[←e];unfold stepQ ziw zfr zm5 zit;dsimp only
  repeat' split
  all_goals first
   |exact qii h1 _
   | (show w.s.turn≤w.s.turn+1;omega)
   | (simp only[zfx];rw[zc0 h1];show w.s.turn≤w.s.turn+1;omega)
 unfold zfn;split
 ·show s.turn≤s.turn+1;omega
 ·dsimp only;split
  ·exact key _
  ·exact key _
theorem zzx {P:Frame→Prop}:∀(fs:List Frame) (z:FLk×Int),(∀g∈z.1.q,P g)→(∀g∈fs,P g)→(∀g∈(fs.foldl zap z).1.q,P g)∧(fs.foldl zap z).1.epoch=z.1.epoch
 |[],z,h,_=>⟨h,rfl⟩
 |f::fs,z,h,hf=>by
  have key:(∀g∈(zap z f).1.q,P g)∧(zap z f).1.epoch=z.1.epoch:=by
   unfold zap;split
   ·unfold zh1;split
    ·exact⟨h,rfl⟩
    split
    ·exact⟨h,rfl⟩
    ·refine⟨?_,rfl⟩;intro g hg;rcases List.mem_append.1 hg with q|q
     ·exact h g q
     ·simp only[List.mem_singleton]at q;subst q;exact hf _ List.mem_cons_self
   ·exact⟨h,rfl⟩
  have r:=zzx fs (zap z f) key.1 (fun g hg=>hf g (List.mem_cons_of_mem _ hg));exact⟨r.1,r.2.trans key.2⟩
theorem zer {P:Frame→Prop}{l:FLk}(lost:Int){fs:List Frame}(h:∀g∈l.q,P g)(hf:∀g∈fs,P g):(∀g∈(za1 l lost fs).1.q,P g)∧(za1 l lost fs).1.epoch=l.epoch:=zzx fs (l,lost) h hf
theorem zr6 (l:FLk)(i:Int):(∀g∈(zbe l i).1.q,g∈l.q)∧(zbe l i).1.epoch=l.epoch∧(¬l.q=[]→(zbe l i).2.1∈l.q):=by
 unfold zbe;split
 ·exact⟨fun g hg=>hg,rfl,fun h=>absurd ‹_› h⟩
 ·rename_i hq;refine⟨?_,rfl,fun _=>?_⟩
  ·intro g hg;rcases List.mem_append.1 hg with q|q
   ·exact List.mem_of_mem_take q
   ·exact List.mem_of_mem_drop q
  ·have hlt:=zfm i hq;simp only[List.getD_eq_getElem?_getD,List.getElem?_eq_getElem hlt,Option.getD_some];exact List.getElem_mem hlt
theorem qaw {l:FLk}{i:Int}{f:FLk→Int→FLk×Int}(hf:f=zns∨f=zgg∨f=zlf):(∀g∈(f l i).1.q,g∈l.q)∧(f l i).1.epoch=l.epoch:=by
 have t:=zr6 l i;rcases hf with rfl|rfl|rfl
 ·exact⟨t.1,t.2.1⟩
 ·unfold zgg;split
  ·exact⟨fun g hg=>hg,rfl⟩
  split
  ·exact⟨fun g hg=>hg,rfl⟩
  ·rename_i hq _;refine⟨?_,rfl⟩;intro g hg;rcases List.mem_append.1 hg with q|q
   ·exact q
   ·simp only[List.mem_singleton]at q;subst q;have hlt:=zfm i hq;simp only[List.getD_eq_getElem?_getD,List.getElem?_eq_getElem hlt,Option.getD_some];exact List.getElem_mem hlt
 ·unfold zlf;split
  ·exact⟨fun g hg=>hg,rfl⟩
  ·rename_i hq;refine⟨?_,rfl⟩;intro g hg;rcases List.mem_append.1 hg with q|q
   ·exact t.1 g q
   ·simp only[List.mem_singleton]at q;subst q;exact t.2.2 hq
structure SdN (n:Node)(B:Int):Prop where
 up:UpF n.up.epoch n.up.q
 dn:DnF n.up.epoch n.dn.q
 ud:n.dn.epoch=n.up.epoch
 se:n.sess.epoch=n.up.epoch
 xs:zb0 n.side=true
 xe:n.side.epoch=n.up.epoch
 eB:n.up.epoch≤B
 tB:n.side.turn≤B
theorem SdN.mono {n:Node}{B C:Int}(h:SdN n B)(hc:B≤C):SdN n C:=⟨h.up,h.dn,h.ud,h.se,h.xs,h.xe,by have:=h.eB;omega,by have:=h.tB;omega⟩
theorem SdN.new (c:Cfg):SdN (zag c) 0:=⟨.nil _,.nil _,rfl,by show max 0 (min (0:Int) 2147483647)=0;decide,zup _ _,rfl,by simp[zag],by simp[zag,newX]⟩
theorem SdN.renew {n:Node}{B:Int}(h:SdN n B)(ho:OkN n)(hB:B≤1000000)(mx lost:Int):SdN (za7 mx lost n).1 (B+1):=by
 have e0:=ho.up.e0;have eB:=h.eB;have tB:=h.tB;have ud:=h.ud;unfold za7;rw[if_neg (by omega)];dsimp only;have hx:=h.xe;have c1:(zay n.side (n.up.epoch+1)).1.epoch=n.up.epoch+1∧(zay n.side (n.up.epoch+1)).1.turn≤B+1:=by
  unfold zay;rw[zc0 h.xs];unfold zcw;rw[if_neg (by omega),if_neg (by simp only[zmo,decide_eq_true_eq];omega)];exact⟨rfl,by simp only[zhy];omega⟩
 have u:=zer (P:=fun g=>g.type≠1∧g.epoch=n.up.epoch+1) (l:=⟨n.up.epoch+1,[]⟩) lost (fs:=(zay n.side (n.up.epoch+1)).2.1) (by intro g hg;cases hg) (qda n.side (n.up.epoch+1));refine⟨?_,?_,?_,?_,zwq _ _,?_,?_,c1.2⟩
 ·rw[show(za1 ⟨n.up.epoch+1,[]⟩ lost (zay n.side (n.up.epoch+1)).2.1).1.epoch=n.up.epoch+1 from u.2];exact u.1
 ·exact .nil _
 ·show n.dn.epoch+1=_;rw[u.2,ud]
 ·show max 0 (min (n.up.epoch+1) 2147483647)=_;rw[u.2];simp only;omega
 ·show(zay n.side (n.up.epoch+1)).1.epoch=_;rw[u.2,c1.1]
 ·show(za1 ⟨n.up.epoch+1,[]⟩ lost (zay n.side (n.up.epoch+1)).2.1).1.epoch≤_;rw[u.2];simp only;omega
theorem SdN.pump {n:Node}{B:Int}(h:SdN n B)(ho:OkN n)(hB:B≤1000000)(mx:Int){p:Store}(hp:sanS p=true)(lost:Int):SdN (zdd mx p lost n).1 (B+1):=by
 have q:=qp3 n.sess p;rw[zc1 ho.ss,h.se]at q;have d:=zer (P:=fun g=>g.type=1∧g.epoch=n.up.epoch) (l:=n.dn) lost (fs:=(Go.G.pump n.sess p).2.1) h.dn q.1;have m:SdN {n with sess:=(Go.G.pump n.sess p).1,dn:=(za1 n.dn lost (Go.G.pump n.sess p).2.1).1} B:=⟨h.up,d.1,by show(za1 _ _ _).1.epoch=_;rw[d.2];exact h.ud,q.2,h.xs,h.xe,h.eB,h.tB⟩;have o:=(zsl ho.ss ho.so hp);unfold zdd;dsimp only;split
 ·exact m.mono (by omega)
 ·exact m.renew ⟨ho.d,o.1,o.2.1,ho.up,ho.dn.send _ _,ho.pl⟩ hB mx _
theorem SdN.set {n:Node}{B:Int}(h:SdN n B){w:Int}{l:FLk}(hs:∀g∈l.q,g∈(wayN n w).q)(he:l.epoch=(wayN n w).epoch):SdN (setW n w l) B:=by
 unfold wayN at hs he;unfold setW;by_cases hw:w=0
 ·rw[if_pos hw]at hs he⊢;refine⟨?_,?_,?_,?_,h.xs,?_,?_,h.tB⟩
  ·intro g hg;show _∧g.epoch=l.epoch;rw[he];exact h.up g (hs g hg)
  ·show DnF l.epoch _;rw[he];exact h.dn
  ·show n.dn.epoch=l.epoch;rw[he];exact h.ud
  ·show n.sess.epoch=l.epoch;rw[he];exact h.se
  ·show n.side.epoch=l.epoch;rw[he];exact h.xe
  ·show l.epoch≤B;rw[he];exact h.eB
 ·rw[if_neg hw]at hs he⊢;exact⟨h.up,fun g hg=>h.dn g (hs g hg),he.trans h.ud,h.se,h.xs,h.xe,h.eB,h.tB⟩
theorem SdN.bring {n:Node}{B:Int}(h:SdN n B)(ho:OkN n)(hB:B≤1000000)(mx:Int){p:Store}(hp:sanS p=true)(lost:Int)(s:MStep):SdN (zce mx p lost n s).1 (B+1):=by
 have t:=zr6 (wayN n s.way) s.n;have m:=h.set t.1 t.2.1;have om:=ho.set s.way ((ho.way s.way).take s.n).1;unfold zce;dsimp only;split
 ·exact m.mono (by omega)
 split
 ·have q:=qpi (setW n s.way (zbe (wayN n s.way) s.n).1).side (zbe (wayN n s.way) s.n).2.1;rw[zc0 m.xs,m.xe]at q;have u:=zer (P:=fun g=>g.type≠1∧g.epoch=(setW n s.way (zbe (wayN n s.way) s.n).1).up.epoch) lost m.up q.1;have tt:=qe1 m.xs (zbe (wayN n s.way) s.n).2.1;have tB:=m.tB;have eB:=m.eB;refine⟨?_,?_,?_,?_,qe2 _ _,?_,?_,by simp only;omega⟩
  ·intro g hg;show _∧g.epoch=(za1 _ _ _).1.epoch;rw[u.2];exact u.1 g hg
  ·show DnF (za1 _ _ _).1.epoch _;rw[u.2];exact m.dn
  ·show _=(za1 _ _ _).1.epoch;rw[u.2];exact m.ud
  ·show _=(za1 _ _ _).1.epoch;rw[u.2];exact m.se
  ·show _=(za1 _ _ _).1.epoch;rw[u.2];exact q.2
  ·show(za1 _ _ _).1.epoch≤_;rw[u.2];omega
 ·have he:=qhw (setW n s.way (zbe (wayN n s.way) s.n).1).sess p (zbe (wayN n s.way) s.n).2.1;rw[zc1 om.ss]at he;have k:SdN {(setW n s.way (zbe (wayN n s.way) s.n).1)with sess:=(handle (setW n s.way (zbe (wayN n s.way) s.n).1).sess p (zbe (wayN n s.way) s.n).2.1).1} B:=⟨m.up,m.dn,m.ud,he.trans m.se,m.xs,m.xe,m.eB,m.tB⟩;have ok:OkN {(setW n s.way (zbe (wayN n s.way) s.n).1)with sess:=(handle (setW n s.way (zbe (wayN n s.way) s.n).1).sess p (zbe (wayN n s.way) s.n).2.1).1}:=⟨om.d,zft p _ om.ss,zmm _ om.ss om.so hp,om.up,om.dn,om.pl⟩;split
  ·exact k.mono (by omega)
  ·exact k.pump ok hB mx hp lost
theorem SdN.goes {n:Node}{B:Int}(h:SdN n B)(lost:Int)(s:MStep):SdN (zkd lost n s).1 (B+1):=by
 have q:=qqc n.pool h.xs s.n;rw[h.xe]at q;have u:=zer (P:=fun g=>g.type≠1∧g.epoch=n.up.epoch) lost h.up q.2.2;have tt:=qgd n.pool h.xs s.n;have tB:=h.tB;have eB:=h.eB;unfold zkd;refine⟨?_,?_,?_,?_,q.1,?_,?_,by simp only;omega⟩
 ·intro g hg;show _∧g.epoch=(za1 _ _ _).1.epoch;rw[u.2];exact u.1 g hg
 ·show DnF (za1 _ _ _).1.epoch _;rw[u.2];exact h.dn
 ·show _=(za1 _ _ _).1.epoch;rw[u.2];exact h.ud
 ·show _=(za1 _ _ _).1.epoch;rw[u.2];exact h.se
 ·show _=(za1 _ _ _).1.epoch;rw[u.2];exact q.2.1
 ·show(za1 _ _ _).1.epoch≤_;rw[u.2];omega
theorem SdN.single {n:Node}{B:Int}(h:SdN n B)(ho:OkN n)(hB:B≤1000000)(mx:Int){p:Store}(hp:sanS p=true)(lost:Int)(s:MStep):SdN (zaz mx p lost n s).1 (B+1):=by
 have hm:∀f,(f=zns∨f=zgg∨f=zlf)→SdN (ze4 f lost n s).1 (B+1):=fun f hf=>by
  have t:=qaw (l:=wayN n s.way) (i:=s.n) hf;exact(h.set t.1 t.2).mono (by omega)
 unfold zaz;split
 ·exact h.bring ho hB mx hp lost s
 split
 ·exact hm _ (.inl rfl)
 split
 ·exact hm _ (.inr (.inl rfl))
 split
 ·exact hm _ (.inr (.inr rfl))
 split
 ·exact h.renew ho hB mx lost
 split
 ·exact⟨h.up,h.dn,h.ud,h.se,h.xs,h.xe,by have:=h.eB;simp only[ze0];omega,by have:=h.tB;simp only[ze0];omega⟩
 split
 ·exact h.goes lost s
 ·exact h.mono (by omega)
theorem SdN.tick {n:Node}{B:Int}(h:SdN n B)(ho:OkN n)(lost:Int):SdN {n with dn:=(za1 n.dn lost (zaf n.sess)).1} B:=by
 have q:=qfs ho.ss;rw[h.se]at q;have d:=zer (P:=fun g=>g.type=1∧g.epoch=n.up.epoch) (l:=n.dn) lost h.dn q;exact⟨h.up,d.1,by show(za1 _ _ _).1.epoch=_;rw[d.2];exact h.ud,h.se,h.xs,h.xe,h.eB,h.tB⟩
theorem zqy (mx:Int){p:Store}(hp:sanS p=true){B:Int}(hB:B≤1000000):∀(l:List Node) (lost e:Int),(∀n∈l,OkN n∧SdN n B)→∀n∈(zba mx p l lost e).1,SdN n (B+1)
 |[],lost,e,_=>by intro n hn;simp[zba]at hn
 |n::l,lost,e,h=>by
  intro x hx;have hn:=h n List.mem_cons_self;rcases List.mem_cons.1 hx with g|g
  ·subst g;exact hn.2.pump hn.1 hB mx hp lost
  ·exact zqy mx hp hB l _ _ (fun y hy=>h y (List.mem_cons_of_mem _ hy)) x g
theorem zqx {B:Int}:∀(l:List Node) (lost k:Int),(∀n∈l,OkN n∧SdN n B)→∀n∈(zbm l lost k).1,SdN n B
 |[],lost,k,_=>by intro n hn;simp[zbm]at hn
 |n::l,lost,k,h=>by
  intro x hx;have hn:=h n List.mem_cons_self;rcases List.mem_cons.1 hx with g|g
  ·subst g;exact hn.2.tick hn.1 lost
  ·exact zqx l _ _ (fun y hy=>h y (List.mem_cons_of_mem _ hy)) x g
theorem qpu {M:Mesh}{B C:Int}(hM:OkM M C)(h:∀n∈M.ns,SdN n B)(hB:B≤1000000)(s:MStep):∀n∈(zas M s).1.ns,SdN n (B+1):=by
 have same:∀n∈M.ns,SdN n (B+1):=fun n hn=>(h n hn).mono (by omega)
 have both:∀n∈M.ns,OkN n∧SdN n B:=fun n hn=>⟨hM.ok n hn,h n hn⟩;unfold zas;split
 ·exact same
 split
 ·exact same
 split
 ·unfold zcz;dsimp only;split
  ·exact same
  ·exact zqy M.c.max (zfk hM.p s.adds s.gone) hB M.ns M.lost 0 both
 split
 ·intro n hn;exact(zqx M.ns M.lost 0 both n hn).mono (by omega)
 split
 ·exact same
 ·rename_i n hn;have hm:=zd9 hn;split
  ·exact same
  ·intro x hx;rcases List.mem_or_eq_of_mem_set hx with g|g
   ·exact same x g
   ·subst g;exact(h n hm.1).single (hM.ok n hm.1) hB M.c.max hM.p M.lost s
theorem qpv {M:Mesh}{B C:Int}:∀(l:List MStep),OkM M C→(∀s∈l,OkSt s)→(∀n∈M.ns,SdN n B)→B+l.length≤1000000→∀n∈(zad M l).1.ns,SdN n (B+l.length):=by
 intro l;induction l generalizing M B C with
 |nil=>intro _ _ h _ n hn;exact(h n hn).mono (by simp)
 |cons x l ih=>
  intro hM hs h hB n hn;simp only[List.length_cons]at hB;have:=ih (hM.step (hs x List.mem_cons_self)) (fun s hm=>hs s (List.mem_cons_of_mem _ hm)) (qpu hM h (by omega) x) (by omega) n hn;exact this.mono (by simp only[List.length_cons];omega)
theorem qwq (c:Cfg){l:List MStep}(hl:l.length≤1000)(hs:∀s∈l,OkSt s):∀n∈(zad (newM c) l).1.ns,OkN n∧
  (∀f∈n.up.q,f.type≠1∧f.epoch=n.up.epoch∧f.epoch=n.sess.epoch)∧(∀f∈n.dn.q,f.type=1∧f.epoch=n.dn.epoch∧f.epoch=n.sess.epoch):=by
 intro n hn;have o:=(zbb l (OkM.new c) hs).1;have d:=qpv (B:=0) l (OkM.new c) hs (fun n hn=>by
  simp only[newM]at hn;rw[List.eq_of_mem_replicate hn];exact SdN.new c) (by omega) n hn
 refine⟨o.ok n hn,fun f hf=>?_,fun f hf=>?_⟩
 ·have q:=d.up f hf;exact⟨q.1,q.2,q.2.trans d.se.symm⟩
 ·have q:=d.dn f hf;exact⟨q.1,q.2.trans d.ud.symm,q.2.trans d.se.symm⟩
inductive NSt (M:Mesh)(s:MStep)(i:Nat)(n:Node):Node→Prop
 |same (h:5≤s.kind→s.kind≤9→s.kind≠6→s.side≠i):NSt M s i n n
 |pump (h0:s.kind=0) (he:zh2 M.p s.adds s.gone=0) (lost:Int):NSt M s i n (zdd M.c.max (zk2 M.p s.adds s.gone) lost n).1
 |tick (h0:s.kind=6) (lost:Int):NSt M s i n {n with dn:=(za1 n.dn lost (zaf n.sess)).1}
 |one (h1:s.side=i) (h0:1≤s.kind∧s.kind≤9∧s.kind≠6) (hw:s.kind≤4→s.way=0∨s.way=1) (lost:Int):NSt M s i n (zaz M.c.max M.p lost n s).1
theorem zq6 (mx:Int)(p:Store):∀(l:List Node) (lost e:Int) (i:Nat) (m:Node),(zba mx p l lost e).1[i]? =some m→∃n lo,l[i]? =some n∧m=(zdd mx p lo n).1
 |[],lost,e,i,m,h=>by simp[zba]at h
 |n::l,lost,e,0,m,h=>⟨n,lost,rfl,by simpa[zba]using h.symm⟩
 |n::l,lost,e,i+1,m,h=>by
  obtain⟨x,lo,h1,h2⟩:=zq6 mx p l _ _ i m (by simpa[zba]using h);exact⟨x,lo,by simpa using h1,h2⟩
theorem zqo :∀(l:List Node) (lost k:Int) (i:Nat) (m:Node),(zbm l lost k).1[i]? =some m→∃n lo,l[i]? =some n∧m={n with dn:=(za1 n.dn lo (zaf n.sess)).1}
 |[],lost,k,i,m,h=>by simp[zbm]at h
 |n::l,lost,k,0,m,h=>⟨n,lost,rfl,by simpa[zbm]using h.symm⟩
 |n::l,lost,k,i+1,m,h=>by
  obtain⟨x,lo,h1,h2⟩:=zqo l _ _ i m (by simpa[zbm]using h);exact⟨x,lo,by simpa using h1,h2⟩
theorem qo3 (M:Mesh)(s:MStep){i:Nat}{m:Node}(h:(zas M s).1.ns[i]? =some m):∃n,M.ns[i]? =some n∧NSt M s i n m:=by
 unfold zas at h;split at h
 ·rename_i hn;exact⟨m,h,.same fun _ _ _ _=>by simp only at h;rw[hn]at h;cases h⟩
 split at h
 ·exact⟨m,h,.same fun _ _ _ _=>by omega⟩
 split at h
 ·rename_i h0;unfold zcz at h;dsimp only at h;split at h
  ·exact⟨m,h,.same fun _ _ _ _=>by omega⟩
  ·rename_i he;obtain⟨n,lo,h1,rfl⟩:=zq6 _ _ _ _ _ i m h;exact⟨n,h1,.pump h0 (Decidable.not_not.1 he) lo⟩
 split at h
 ·rename_i h0;obtain⟨n,lo,h1,rfl⟩:=zqo _ _ _ i m h;exact⟨n,h1,.tick h0 lo⟩
 split at h
 ·rename_i ha;refine⟨m,h,.same fun _ _ _ q=>?_⟩;unfold zk7 at ha;rw[if_pos (by omega),q,Int.toNat_natCast]at ha;simp only at h;rw[h]at ha;cases ha
 ·rename_i h1 h2 h3 h4 n ha;have hm:=zd9 ha;split at h
  ·exact⟨m,h,.same fun _ _ _ _=>by omega⟩
  ·rename_i hw;simp only[List.getElem?_set]at h;split at h
   ·rename_i e;split at h
    ·cases h;subst e;exact⟨n,hm.2.2.2,.one (by omega) ⟨by omega,by omega,by omega⟩ (fun _=>by omega) M.lost⟩
    ·cases h
   ·rename_i e;exact⟨m,h,.same fun _ _ _ q=>e (by omega)⟩
theorem zqu (M:Mesh)(s:MStep):(zas M s).1.c=M.c∧((zas M s).1.p=M.p∨(s.kind=0∧zh2 M.p s.adds s.gone=0∧(zas M s).1.p=zk2 M.p s.adds s.gone)):=by
 unfold zas;split
 ·exact⟨rfl,.inl rfl⟩
 split
 ·exact⟨rfl,.inl rfl⟩
 split
 ·rename_i h0;unfold zcz;dsimp only;split
  ·rename_i he;refine⟨rfl,.inl ?_⟩;show zk2 _ _ _=_;rw[zk2,if_neg he]
  ·rename_i he;exact⟨rfl,.inr ⟨h0,Decidable.not_not.1 he,rfl⟩⟩
 split
 ·exact⟨rfl,.inl rfl⟩
 split
 ·exact⟨rfl,.inl rfl⟩
 ·split
  ·exact⟨rfl,.inl rfl⟩
  ·exact⟨rfl,.inl rfl⟩
theorem qkh {c:Cfg}(I:Nat→Nat→Store→List MStep→Node→Prop)(h0:∀i,I 0 i (newS c.cap) [] (zag c))
  (hs:∀(M:Mesh) (l:List MStep) (s:MStep) (C:Int) (i:Nat) (n m:Node),OkM M C→M.c=c→OkSt s→l.length<1000→OkN n→I l.length i M.p l n→NSt M s i n m→I (l.length+1) i (zas M s).1.p (l++[s]) m):
  ∀(l:List MStep),l.length≤1000→(∀s∈l,OkSt s)→∀i n,(zad (newM c) l).1.ns[i]? =some n→I l.length i (zad (newM c) l).1.p l n:=by
 have key:∀(k:Nat) (l:List MStep),l.length=k→k≤1000→(∀s∈l,OkSt s)→(zad (newM c) l).1.c=c∧∀i n,(zad (newM c) l).1.ns[i]? =some n→I k i (zad (newM c) l).1.p l n:=by
  intro k;induction k with
  |zero=>
   intro l hl _ _;rw[List.eq_nil_of_length_eq_zero hl];refine⟨rfl,fun i n hn=>?_⟩;have:=List.mem_of_getElem? hn;rw[List.eq_of_mem_replicate this];exact h0 i
  |succ k ih=>
   intro l hl hk hok;obtain⟨l',s,rfl⟩:∃l' s,l=l'++[s]:=⟨l.dropLast,l.getLast (by intro e;subst e;simp at hl),(List.dropLast_concat_getLast _).symm⟩;have hl':l'.length=k:=by simpa using hl
   obtain⟨hc,hi⟩:=ih l' hl' (by omega) (fun x hx=>hok x (List.mem_append_left _ hx));have ok:=(zbb l' (OkM.new c) (fun x hx=>hok x (List.mem_append_left _ hx))).1;rw[zb7];refine⟨(zqu _ s).1.trans hc,fun i n hn=>?_⟩;obtain⟨x,hx,st⟩:=qo3 _ s hn;have:=hs _ l' s _ i x n ok hc (hok s (by simp)) (by omega) (ok.ok x (List.mem_of_getElem? hx)) (hl'▸hi i x hx) st;rw[hl']at this;exact this
 intro l hl hok i n hn;exact(key l.length l rfl hl hok).2 i n hn
theorem Nonce.set_open (o:Nonce.Ou){k j:Int}(l:Int)(b:Bool)(hk:Nonce.kindB k=true)(hj:Nonce.kindB j=true):(o.set k l b).open' j=(if j=k then b else o.open' j)∧(o.set k l b).last j=(if j=k then l else o.last j)∧(o.set k l b).m=o.m:=by
 rcases Nonce.kindB_is hk with rfl|rfl|rfl|rfl<;>rcases Nonce.kindB_is hj with rfl|rfl|rfl|rfl<;>exact⟨rfl,rfl,rfl⟩
structure OutS (s:Sess):Prop where
 only:∀k,Nonce.kindB k=true→s.out.open' k=true→s.v.open_=true∧k=s.v.push.kind
 push:s.v.push=zFrame∨za0 s.v.push=0
theorem OutS.new (e m:Int):OutS (zci e m):=by
 refine⟨fun k hk h=>?_,.inl rfl⟩;rcases Nonce.kindB_is hk with rfl|rfl|rfl|rfl<;>cases h
theorem qr4 {o:Nonce.Ou}(ho:Nonce.goodB o=true){k n:Int}(h:(Nonce.done o k n).2=0):Nonce.kindB k=true∧o.open' k=true∧n=o.last k∧(Nonce.done o k n).1=o.set k (o.last k) false:=by
 unfold Nonce.done at h⊢;rw[zo9 ho]at h⊢;unfold Nonce.doneQ at h⊢;split at h
 ·cases h
 split at h
 ·cases h
 ·rename_i h1 h2;rw[if_neg h1,if_neg h2];simp only[not_or,Bool.not_eq_false,Decidable.not_not]at h1 h2;exact⟨h1,h2.1,h2.2,rfl⟩
theorem zx0 {o:Nonce.Ou}(ho:Nonce.goodB o=true){k:Int}(h:(Nonce.push o k).2.2=0):Nonce.kindB k=true∧o.open' k=false∧¬o.last k=o.m∧Nonce.push o k=(o.set k (o.last k+1) true,o.last k+1,0):=by
 unfold Nonce.push at h⊢;rw[zo9 ho]at h⊢;unfold Nonce.pushQ at h⊢;split at h
 ·cases h
 split at h
 ·cases h
 split at h
 ·cases h
 ·rename_i h1 h2 h3;rw[if_neg h1,if_neg h2,if_neg h3];exact⟨by simpa using h1,by simpa using h2,h3,rfl⟩
theorem qcz {s:Sess}(p:Store)(f:Frame)(hs:zbt s=true):((handle s p f).1.out=s.out∧(handle s p f).1.v.open_=s.v.open_∧(handle s p f).1.v.push=s.v.push)∨
  ((Nonce.done s.out f.kind f.nonce).2=0∧s.v.open_=true∧f.kind=s.v.push.kind∧(handle s p f).1.out=(Nonce.done s.out f.kind f.nonce).1∧(handle s p f).1.v=ansV s.v f∧(ansV s.v f).open_=false∧(ansV s.v f).push=zFrame):=by
 unfold handle;rw[zc1 hs];unfold zck;split
 ·exact .inl ⟨rfl,rfl,rfl⟩
 split
 ·exact .inl ⟨rfl,rfl,rfl⟩
 split
 ·left;unfold zgc;split<;>exact⟨rfl,rfl,rfl⟩
 split
 ·exact .inl ⟨rfl,rfl,rfl⟩
 split
 ·unfold ackH;split
  ·exact .inl ⟨rfl,rfl,rfl⟩
  split
  ·exact .inl ⟨rfl,rfl,rfl⟩
  split
  ·exact .inl ⟨rfl,rfl,rfl⟩
  split
  ·exact .inl ⟨rfl,rfl,rfl⟩
  ·rename_i h1 h2 h3 _;right;have ho:s.v.open_=true:=by simpa using h2
   have hc:(ansV s.v f).open_=false:=by simpa using h3
   have hk:fitF s.v f=true:=by
    cases hf:fitF s.v f
    ·rw[ansV,if_neg (by simp[ho]),if_pos hf,ho]at hc;cases hc
    ·rfl
   have e:ansV s.v f={zda ⟨s.v.have_,s.v.held,s.v.turn,zFrame,false⟩ f.turn f.held with have_:=if f.err=0 then zbk s.v.have_ s.v.push.adds s.v.push.gone else s.v.have_}:=by
    rw[ansV,if_neg (by simp[ho]),if_neg (by simp[hk])]
   refine⟨Decidable.not_not.1 h1,ho,?_,rfl,rfl,hc,?_⟩
   ·simp only[fitF,Bool.and_eq_true,decide_eq_true_eq]at hk;exact hk.1.2
   ·rw[e];unfold zda;split<;>rfl
 ·left;unfold zjs zda;refine⟨rfl,?_,?_⟩<;>(dsimp only;split<;>rfl)
theorem OutS.handle {s:Sess}(h:OutS s)(p:Store)(f:Frame)(hs:zbt s=true):OutS (Go.G.handle s p f).1∧(Go.G.handle s p f).1.out.m=s.out.m∧∀k,Nonce.kindB k=true→(Go.G.handle s p f).1.out.last k=s.out.last k:=by
 rcases qcz p f hs with⟨e1,e2,e3⟩|⟨h1,h2,h3,e1,e2,e3,e4⟩
 ·rw[e1];exact⟨⟨fun k hk ho=>by rw[e2,e3];rw[e1]at ho;exact h.only k hk ho,by rw[e3];exact h.push⟩,rfl,fun _ _=>rfl⟩
 ·obtain⟨q1,q2,q3,q4⟩:=qr4 (saneS_iff.1 hs).out h1;rw[q4]at e1;rw[e1];refine⟨⟨fun k hk ho=>?_,.inl (by rw[e2];exact e4)⟩,(Nonce.set_open s.out _ _ q1 q1).2.2,fun k hk=>?_⟩
  ·rw[e1,(Nonce.set_open s.out _ _ q1 hk).1]at ho;split at ho
   ·cases ho
   ·rename_i hne;exact absurd ((h.only k hk ho).2.trans h3.symm) hne
  ·rw[(Nonce.set_open s.out _ _ q1 hk).2.1];split
   ·rename_i e;rw[e]
   ·rfl
theorem OutS.pump {s:Sess}(h:OutS s){p:Store}(hs:zbt s=true)(hp:sanS p=true){B:Int}(hl:∀k,Nonce.kindB k=true→s.out.last k≤B):
  OutS (Go.G.pump s p).1∧(Go.G.pump s p).1.out.m=s.out.m∧(∀k,Nonce.kindB k=true→(Go.G.pump s p).1.out.last k≤B+1)∧(B<s.out.m→(Go.G.pump s p).2.2=0):=by
 have hg:=(saneS_iff.1 hs).out;have no:∀x:Step,s.v.open_=false→Nonce.kindB x.kind=true→s.out.open' x.kind=false:=fun x ho hk=>by
  cases e:s.out.open' x.kind
  ·rfl
  ·have:=(h.only _ hk e).1;rw[ho]at this;cases this
 have z:B<s.out.m→(Go.G.pump s p).2.2=0:=fun hB=>by
  unfold Go.G.pump;rw[zc1 hs];unfold ze6;split
  ·rfl
  rename_i hi;split
  ·rfl
  ·rename_i x hx;have hk:=qny (qgw hx).kind;have ho:s.v.open_=false:=by
    simp only[idle,Bool.not_eq_true,Bool.or_eq_false_iff]at hi;exact hi.1.2
   have e:(Nonce.push s.out x.kind).2.2=0:=by
    unfold Nonce.push;rw[zo9 hg];unfold Nonce.pushQ;have:=hl _ hk;rw[if_neg (by simp[hk]),if_neg (by simp[no x ho hk]),if_neg (by omega)]
   unfold zk1;rw[if_pos e]
 refine⟨?_,?_,?_,z⟩;all_goals
  rcases zq5 hs p with⟨e,_⟩|⟨x,c1,c2,c3,c4,c5⟩
 ·rw[e];exact h
 ·obtain⟨q1,q2,q3,q4⟩:=zx0 hg c4;have fo:=qe6 hs hp c1 c3 c4;rw[c5];refine⟨fun k hk ho=>⟨rfl,?_⟩,.inr fo.sane⟩;simp only at ho;rw[q4,(Nonce.set_open s.out _ _ q1 hk).1]at ho;split at ho
  ·assumption
  ·have:=(h.only k hk ho).1;rw[c2]at this;cases this
 ·rw[e]
 ·obtain⟨q1,q2,q3,q4⟩:=zx0 hg c4;rw[c5];simp only[q4];exact(Nonce.set_open s.out _ _ q1 q1).2.2
 ·rw[e];intro k hk;have:=hl k hk;omega
 ·obtain⟨q1,q2,q3,q4⟩:=zx0 hg c4;rw[c5];intro k hk;simp only[q4];rw[(Nonce.set_open s.out _ _ q1 hk).2.1];have:=hl k hk;split
  ·rename_i e;subst e;omega
  ·omega
structure CntN (n:Node)(m B k:Int):Prop where
 out:OutS n.sess
 om:n.sess.out.m=m
 ol:∀k,Nonce.kindB k=true→n.sess.out.last k≤B
 ep:n.up.epoch=k
theorem CntN.of {n n':Node}{m B k:Int}(h:CntN n m B k)(hs:n'.sess=n.sess)(hu:n'.up.epoch=n.up.epoch):CntN n' m (B+1) k:=
 ⟨hs▸h.out,hs▸h.om,fun j hj=>by rw[hs];have:=h.ol j hj;omega,hu.trans h.ep⟩
theorem CntN.renew {n:Node}{m B k:Int}(h:CntN n m B k)(hB:0≤B)(he:n.up.epoch<2147483647∧n.dn.epoch<2147483647)(mx:Int)(hm:Nonce.bnd mx=m)(lost:Int):CntN (za7 mx lost n).1 m (B+1) (k+1):=by
 unfold za7;rw[if_neg (by omega)];refine⟨.new _ _,hm,fun j hj=>?_,?_⟩
 ·rcases Nonce.kindB_is hj with rfl|rfl|rfl|rfl<;>(show(0:Int)≤B+1;omega)
 ·show(za1 _ _ _).1.epoch=_;rw[(zer (P:=fun _=>True) lost (fun _ _=>trivial) (fun _ _=>trivial)).2,←h.ep]
theorem CntN.pump {n:Node}{m B k:Int}(h:CntN n m B k)(hs:zbt n.sess=true){p:Store}(hp:sanS p=true)(hB:B<m)(mx lost:Int):CntN (zdd mx p lost n).1 m (B+1) k:=by
 obtain⟨q1,q2,q3,q4⟩:=h.out.pump hs hp h.ol;unfold zdd;dsimp only;rw[if_pos (q4 (by rw[h.om];exact hB))];exact⟨q1,q2.trans h.om,q3,h.ep⟩
theorem qe4 (n:Node){w:Int}{l:FLk}(he:l.epoch=(wayN n w).epoch):(setW n w l).sess=n.sess∧(setW n w l).up.epoch=n.up.epoch:=by
 unfold wayN at he;unfold setW;split
 ·rename_i h;rw[if_pos h]at he;exact⟨rfl,he⟩
 ·exact⟨rfl,rfl⟩
theorem CntN.single {n:Node}{m B k:Int}(h:CntN n m B k)(ho:OkN n)(sd:SdN n B)(hB:0≤B∧B<1000)(hmm:1000≤m)(mx:Int)(hm:Nonce.bnd mx=m){p:Store}(hp:sanS p=true)(lost:Int)(s:MStep):CntN (zaz mx p lost n s).1 m (B+1) (k+if s.kind=5 then 1 else 0):=by
 have hx:∀f,(f=zns∨f=zgg∨f=zlf)→CntN (ze4 f lost n s).1 m (B+1) k:=fun f hf=>by
  have u:=qe4 n (qaw (l:=wayN n s.way) (i:=s.n) hf).2;exact h.of u.1 u.2
 unfold zaz;split
 ·rename_i h1;rw[if_neg (by omega),Int.add_zero];have u:=qe4 n (zr6 (wayN n s.way) s.n).2.1;have om:=ho.set s.way ((ho.way s.way).take s.n).1;unfold zce;dsimp only;split
  ·exact h.of u.1 u.2
  split
  ·exact h.of u.1 (by
    show(za1 _ _ _).1.epoch=_;rw[(zer (P:=fun _=>True) lost (fun _ _=>trivial) (fun _ _=>trivial)).2,u.2])
  ·have hh:=h.out.handle p (zbe (wayN n s.way) s.n).2.1 ho.ss;rw[←u.1]at hh;have c:CntN {(setW n s.way (zbe (wayN n s.way) s.n).1)with sess:=(handle (setW n s.way (zbe (wayN n s.way) s.n).1).sess p (zbe (wayN n s.way) s.n).2.1).1} m B k:=
    ⟨hh.1,by rw[←h.om,←u.1];exact hh.2.1,fun j hj=>by rw[hh.2.2 j hj,u.1];exact h.ol j hj,u.2.trans h.ep⟩
   split
   ·exact c.of rfl rfl
   ·exact c.pump (zft p _ om.ss) hp (by omega) mx lost
 split
 ·rw[if_neg (by omega),Int.add_zero];exact hx _ (.inl rfl)
 split
 ·rw[if_neg (by omega),Int.add_zero];exact hx _ (.inr (.inl rfl))
 split
 ·rw[if_neg (by omega),Int.add_zero];exact hx _ (.inr (.inr rfl))
 split
 ·have:=sd.eB;have:=sd.ud;exact h.renew hB.1 ⟨by omega,by omega⟩ mx hm lost
 rw[Int.add_zero];split
 ·exact h.of rfl rfl
 split
 ·exact h.of rfl (by
   show(za1 _ _ _).1.epoch=_;rw[(zer (P:=fun _=>True) lost (fun _ _=>trivial) (fun _ _=>trivial)).2])
 ·exact h.of rfl rfl
def renewsN (l:List MStep)(i:Nat):Nat:=(l.filter fun s=>decide (s.kind=5)&&decide (s.side=(i:Int))).length
def zkq (l:List MStep)(k:Int):Nat:=(l.filter fun s=>decide (s.kind=k)).length
theorem ql4 {f:Frame}(h:f=zFrame∨za0 f=0):fewF f=true:=by
 rcases h with rfl|h
 ·rfl
 ·have o:=frameE_zero.1 h;have sm:=o.small;have nm:=o.named;simp only[zcc,zb9,Bool.and_eq_true,decide_eq_true_eq,List.all_eq_true]at sm nm;obtain⟨⟨⟨⟨⟨⟨⟨⟨a1,a2⟩,a3⟩,a4⟩,_⟩,_⟩,_⟩,_⟩,_⟩:=sm;have nl:∀k:Key,okK k=true→(bs k.name).length≤100:=fun k hk=>by
   simp only[okK,zcy,zgk,Bool.and_eq_true,decide_eq_true_eq]at hk;omega
  simp only[fewF,fewL,zfu,zec,Bool.and_eq_true,decide_eq_true_eq,List.all_eq_true];refine⟨⟨⟨⟨fun m hm=>nl _ (nm.2 m hm),fun r hr=>?_,by omega⟩,by omega⟩,by omega⟩,by omega⟩;have q:=zky (o.adds r hr);have q1:=q.name;have q2:=q.to;have q3:=q.rules;have q4:=q.hosts;refine⟨⟨⟨⟨fun x hx=>?_,by omega⟩,by omega⟩,by omega⟩,by omega⟩;have y:=q.rule x hx;have y1:=y.host;have y2:=y.pre;have y3:=y.split;exact⟨⟨by omega,by omega⟩,by omega⟩
theorem zog (l:List MStep)(s:MStep)(k:Int):zkq (l++[s]) k=zkq l k+if s.kind=k then 1 else 0:=by
 unfold zkq;rw[List.filter_append,List.length_append];congr 1
 by_cases h:s.kind=k<;>simp[h]
theorem qk2 (c:Cfg):∀(k:Nat) (l:List MStep),l.length=k→(∀s∈l,OkSt s)→((zad (newM c) l).1.p.hist.length:Int)≤1+zkq l 0:=by
 intro k;induction k with
 |zero=>intro l hl _;rw[List.eq_nil_of_length_eq_zero hl];simp[zad,newM,newS,zkq]
 |succ k ih=>
  intro l hl hok;obtain⟨l',s,rfl⟩:∃l' s,l=l'++[s]:=⟨l.dropLast,l.getLast (by intro e;subst e;simp at hl),(List.dropLast_concat_getLast _).symm⟩;have:=ih l' (by simpa using hl) (fun x hx=>hok x (List.mem_append_left _ hx));rw[zb7,zog];rcases(zqu (zad (newM c) l').1 s).2 with e|⟨h0,h1,e⟩
  ·simp only[e];omega
  ·simp only[e,zk2];rw[if_pos h1,if_pos h0];simp only[List.length_append,List.length_singleton];omega
theorem qv2 (c:Cfg)(hm:1000≤c.max){l:List MStep}(hl:l.length≤900)(hs:∀s∈l,OkSt s):
  (∀i n,(zad (newM c) l).1.ns[i]? =some n→n.side.epoch=(renewsN l i:Int)∧n.sess.epoch=(renewsN l i:Int)∧fewF n.sess.v.push=true)∧nowI (zad (newM c) l).1.p≤zkq l 0:=by
 constructor
 ·intro i n hn;have hb:Nonce.bnd c.max≥1000:=by simp only[Nonce.bnd];omega
  have key:=qkh (c:=c) (fun k i _ l n=>k≤900→SdN n (k:Int)∧CntN n (Nonce.bnd c.max) (k:Int) (renewsN l i:Int)) (fun i _=>⟨SdN.new c,.new _ _,rfl,fun k hk=>by
    rcases Nonce.kindB_is hk with rfl|rfl|rfl|rfl<;>exact Int.le_refl 0,rfl⟩) ?_ l (by omega) hs i n hn hl
  ·have:=key.1.xe;have:=key.1.se;have:=key.2.ep;exact⟨by omega,by omega,ql4 key.2.out.push⟩
  ·intro M l s C i n m hM hc hs hl1 hn ih st hk;obtain⟨sd,cn⟩:=ih (by omega);have hp:=hM.p;have e:((l.length+1:Nat):Int)=(l.length:Int)+1:=by omega
   have hr:(renewsN (l++[s]) i:Int)=renewsN l i+if s.kind=5∧s.side=(i:Int)then 1 else 0:=by
    unfold renewsN;rw[List.filter_append,List.length_append];by_cases h:s.kind=5∧s.side=(i:Int)
    ·simp[h]
    ·rw[if_neg h];have:(decide (s.kind=5)&&decide (s.side=(i:Int)))=false:=by
      rw[←Bool.not_eq_true,Bool.and_eq_true,decide_eq_true_eq,decide_eq_true_eq];exact h
     simp[this]
   rw[e,hr];cases st with
   |same h=>rw[if_neg (fun q=>h (by omega) (by omega) (by omega) q.2),Int.add_zero];exact⟨sd.mono (by omega),cn.of rfl rfl⟩
   |pump h0 he lost=>
    rw[if_neg (by omega),Int.add_zero];have hq:=zfk hp s.adds s.gone;exact⟨sd.pump hn (by omega) _ hq _,cn.pump hn.ss hq (by omega) _ _⟩
   |tick h0 lost=>rw[if_neg (by omega),Int.add_zero];exact⟨(sd.tick hn lost).mono (by omega),cn.of rfl rfl⟩
   |one h1 h0 hw lost=>
    simp only[h1,and_true];exact⟨sd.single hn (by omega) _ hp _ _,cn.single hn sd (by omega) (by omega) _ (by rw[hc]) hp _ _⟩
 ·have h:=qk2 c l.length l rfl hs;have ok:=(zbb l (OkM.new c) hs).1.p;unfold nowI;rw[zfb ok];omega
end Go.G
