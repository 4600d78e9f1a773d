/-
  LAYER 24: what holds of each side of a mesh behind whatever steps, plainly.
-/
import Derived.Test.YtjoaclgkjhncjaaGreatDoorPq
set_option linter.unusedSimpArgs false
set_option linter.unusedVariables false
namespace Go.G
open Go.AI
def UpF (e:Int)(l:List Frame):Prop:=∀g∈l,g.type≠1∧g.epoch=e
def DnF (e:Int)(l:List Frame):Prop:=∀g∈l,g.type=1∧g.epoch=e
theorem UpF.nil (e:Int):UpF e []:=by intro g hg;cases hg
theorem DnF.nil (e:Int):DnF e []:=by intro g hg;cases hg
theorem qeo (s:Side)(e:Int):UpF e (zao s e).2.1:=by
 unfold zao zcf;split
 ·exact .nil _
 split
 ·exact .nil _
 ·intro g hg;simp only[List.mem_cons,List.not_mem_nil,or_false]at hg;rcases hg with rfl|rfl
  ·exact⟨by simp[zlz],rfl⟩
  ·exact⟨by simp[qci],rfl⟩
theorem qpe {s:Side}{f:Frame}(h:zbo s f=0)(t:Side):UpF s.epoch (ackX t f).2:=by
 intro g hg;simp only[ackX,List.mem_singleton]at hg;subst hg;refine⟨by simp,?_⟩;unfold zbo at h;split at h
 ·cases h
 split at h
 ·exact absurd h ‹_›
 split at h
 ·cases h
 rename_i he;simpa using he
theorem qk0 (s:Side)(f:Frame):(zd4 s f).1.epoch=s.epoch:=by
 unfold zd4;dsimp only
 repeat' split
 all_goals rfl
theorem qqp (s:Side)(f:Frame):UpF (soundX s).epoch (zea s f).2.1∧(zea s f).1.epoch=(soundX s).epoch:=by
 unfold zea;generalize soundX s=s;unfold zgw;split
 ·exact⟨.nil _,rfl⟩
 rename_i hr;have hr:=Decidable.not_not.1 hr;dsimp only;split
 ·split
  ·exact⟨.nil _,rfl⟩
  split
  ·exact⟨.nil _,rfl⟩
  ·exact⟨qpe hr _,by show(zd4 s f).1.epoch=_;exact qk0 s f⟩
 ·split
  ·split
   ·exact⟨.nil _,rfl⟩
   ·exact⟨qpe hr _,rfl⟩
  ·exact⟨.nil _,rfl⟩
theorem qw0 (s:Side)(id:Int):UpF (soundX s).epoch (endX s id).2.1∧(endX s id).1.epoch=(soundX s).epoch:=by
 unfold endX;generalize soundX s=s;unfold endQ;dsimp only;split
 ·exact⟨.nil _,rfl⟩
 ·refine⟨?_,rfl⟩;intro g hg;simp only[List.mem_singleton]at hg;subst hg;exact⟨by simp,rfl⟩
theorem qlv (s:Sess)(x:Step):DnF s.epoch (zk9 s x).2.1∧(zk9 s x).1.epoch=s.epoch:=by
 unfold zk9;split
 ·refine⟨?_,rfl⟩;intro g hg;simp only[List.mem_singleton]at hg;subst hg;exact⟨rfl,rfl⟩
 ·exact⟨.nil _,rfl⟩
theorem qhd (s:Sess)(p:Store):DnF (zbm s).epoch (pump s p).2.1∧(pump s p).1.epoch=(zbm s).epoch:=by
 unfold pump;generalize zbm s=s;unfold zf3;split
 ·exact⟨.nil _,rfl⟩
 split
 ·exact⟨.nil _,rfl⟩
 ·exact qlv _ _
theorem qg3 {s:Sess}(h:zbr s=true):DnF s.epoch (zae s):=by
 unfold zae;rw[zbx h];split
 ·rename_i ho;have w:=(saneS_iff.1 h).waits ho;simp only[zbl,Bool.and_eq_true,decide_eq_true_eq]at w;intro g hg;simp only[List.mem_singleton]at hg;subst hg;exact⟨w.1.1.1.2,w.1.1.2⟩
 ·exact .nil _
theorem zxl (s:Sess)(p:Store)(f:Frame):(handle s p f).1.epoch=(zbm s).epoch:=by
 unfold handle;generalize zbm s=s;unfold zcj zf7 ackH zj5
 repeat' split
 all_goals rfl
structure UpW (e:Int)(w:Work):Prop where
 hs:za0 w.s=true
 he:w.s.epoch=e
 up:UpF e w.told
theorem zrw {n:Int}:∀{l:List Snap} {a:Int} {s:Snap},zbb n a (l++[s])=true→s.pins<10000→zbb n a (l++[{s with pins:=s.pins+1}])=true
 |[],a,s,h,hp=>by
  simp[zbb]at h⊢;omega
 |x::l,a,s,h,hp=>by
  simp only[List.cons_append,zbb,Bool.and_eq_true,decide_eq_true_eq]at h⊢;refine⟨⟨⟨h.1.1.1,?_⟩,h.1.2⟩,zrw h.2 hp⟩;have:=h.1.1.2;simpa using this
theorem zrv {n:Int}:∀{l:List Snap} {a:Int} {k:Nat} {s:Snap},zbb n a l=true→l[k]? =some s→1≤s.pins→(k+1=l.length∨2≤s.pins)→zbb n a (l.set k {s with pins:=s.pins-1})=true
 |[],_,_,_,_,h,_,_=>by simp at h
 |x::l,a,0,s,h,hk,h1,h2=>by
  simp only[List.getElem?_cons_zero,Option.some.injEq]at hk;subst hk;simp only[List.set_cons_zero,zbb,Bool.and_eq_true,decide_eq_true_eq]at h⊢;have h5:=h.1.2;refine⟨⟨⟨h.1.1.1,?_⟩,(by omega:x.pins-1≤10000)⟩,h.2⟩;split
  ·exact(by omega:(0:Int)≤x.pins-1)
  ·rename_i hl;rcases h2 with h2|h2
   ·have:0<l.length:=List.length_pos_iff.2 hl;simp only[List.length_cons]at h2;omega
   ·exact(by omega:(1:Int)≤x.pins-1)
 |x::l,a,k+1,s,h,hk,h1,h2=>by
  simp only[List.getElem?_cons_succ]at hk;simp only[List.set_cons_succ,zbb,Bool.and_eq_true,decide_eq_true_eq]at h⊢;refine⟨⟨⟨h.1.1.1,?_⟩,h.1.2⟩,zrv h.2 hk h1 (by simpa using h2)⟩;have:=h.1.1.2;have hl:l≠[]:=by intro e;rw[e]at hk;simp at hk
  rw[if_neg hl]at this;split<;>omega
theorem zng {n:Int}:∀{l:List Snap} {a:Int} {k:Nat},zbb n a l=true→k+1≠l.length→zbb n a (l.eraseIdx k)=true
 |[],_,_,_,_=>by simp[zbb]
 |x::l,a,0,h,_=>by
  simp only[zbb,Bool.and_eq_true,decide_eq_true_eq]at h;simp only[List.eraseIdx_cons_zero];exact zpp (by omega) h.2
 |x::l,a,k+1,h,hk=>by
  simp only[List.eraseIdx_cons_succ,zbb,Bool.and_eq_true,decide_eq_true_eq]at h⊢;refine⟨⟨⟨h.1.1.1,?_⟩,h.1.2⟩,zng h.2 (by simpa using hk)⟩;have:=h.1.1.2;by_cases hl:l=[]
  ·rw[if_pos hl]at this;subst hl;simpa using this
  ·rw[if_neg hl]at this;split<;>omega
theorem zxj (p:Pins):Asc (zcw p)∧∀x,x∈zcw p↔∃s∈(za3 p).snaps,∃r∈s.l,r.key=x:=by
 have h:=zhl (((za3 p).snaps.flatMap (·.l)).map Res.key) (o:=[]) (by simp[Asc]);refine⟨h.1,fun x=>?_⟩;unfold zcw qm6;rw[h.2];simp only[List.not_mem_nil,false_or,List.mem_map,List.mem_flatMap];constructor
 ·rintro⟨r,⟨s,hs,hr⟩,rfl⟩;exact⟨s,hs,r,hr,rfl⟩
 ·rintro⟨s,hs,r,hr,rfl⟩;exact⟨r,⟨s,hs,hr⟩,rfl⟩
theorem qlp {p q:Pins}(h:∀k∈zcw q,k∈zcw p)(hr:zpx p=true):zpx q=true:=by
 have r:=room_iff.1 hr;exact room_iff.2 ⟨Nat.le_trans (zhz (zyg (zxj q).1) h) r.1,fun k hk=>r.2 k (h k hk)⟩
theorem zmq {x:Side}(hx:za0 x=true){q:Pins}(h1:zfc q=true)(h2:∀s∈q.snaps,∃t∈x.p.snaps,s.l=t.l)(h3:(q.snaps.getLast?).map Snap.l=(x.p.snaps.getLast?).map Snap.l):za0 {x with p:=q}=true:=by
 have X:=saneX_iff.1 hx;refine saneX_iff.2 ⟨X.epoch,X.turn,X.errs,X.inn,X.w,h1,qlp (p:=x.p) (fun k hk=>?_) X.room,?_⟩
 ·rw[(zxj _).2]at hk⊢;rw[zc8 h1]at hk;rw[zc8 X.p];obtain⟨s,hs,r,hr,rfl⟩:=hk;obtain⟨t,ht,e⟩:=h2 s hs;exact⟨t,ht,r,e▸hr,rfl⟩
 ·have a:=X.agrees;unfold zdz curP at a⊢;rw[zc8 X.p]at a;simp only;rw[zc8 h1];cases h4:q.snaps.getLast? with
  |none=>
   rw[h4]at h3;cases h5:x.p.snaps.getLast? with
   |none=>rw[h5]at a;exact a
   |some t=>rw[h5]at h3;simp at h3
  |some s=>
   rw[h4]at h3;cases h5:x.p.snaps.getLast? with
   |none=>rw[h5]at h3;simp at h3
   |some t=>
    rw[h5]at h3 a;simp only[Option.map_some,Option.some.injEq]at h3;simp only at a⊢;rw[h3];exact a
theorem zru {n:Int}:∀{l:List Snap} {a:Int},zbb n a l=true→∀s∈l,s.pins≤10000
 |[],_,_,s,hs=>by cases hs
 |x::l,a,h,s,hs=>by
  simp only[zbb,Bool.and_eq_true,decide_eq_true_eq]at h;rcases List.mem_cons.1 hs with e|e
  ·subst e;exact h.1.2
  ·exact zru h.2 s e
theorem zwh {x:Side}(hx:za0 x=true):za0 {x with p:=(pinP x.p).1}=true:=by
 have X:=saneX_iff.1 hx;have hp:=saneP_iff.1 X.p;unfold pinP;rw[zc8 X.p];unfold pinQ;split
 ·exact hx
 ·rename_i s hs;split
  ·exact hx
  ·rename_i h0;have hm:s∈x.p.snaps:=List.mem_of_getLast? hs;have hl:x.p.snaps=x.p.snaps.dropLast++[s]:=by
    have hne:x.p.snaps≠[]:=by intro e;rw[e]at hs;simp at hs
    have:=List.dropLast_concat_getLast hne;rw[List.getLast?_eq_some_getLast hne]at hs;simp only[Option.some.injEq]at hs;rw[hs]at this;exact this.symm
   have ht:=zru hp.1 s hm;have h1:=hp.1;rw[hl]at h1;refine zmq hx (saneP_iff.2 ⟨zrw h1 (by omega),hp.2.1,?_⟩) ?_ ?_
   ·have:=congrArg List.length hl;simp at this⊢;have:=hp.2.2;omega
   ·intro t ht;simp only[List.mem_append,List.mem_singleton]at ht;rcases ht with ht|rfl
    ·exact⟨t,List.dropLast_subset _ ht,rfl⟩
    ·exact⟨s,hm,rfl⟩
   ·simp[hs]
theorem qg6 {x:Side}(hx:za0 x=true)(id:Int):za0 {x with p:=(relP x.p id).1}=true:=by
 have X:=saneX_iff.1 hx;have hp:=saneP_iff.1 X.p;unfold relP;rw[zc8 X.p];unfold relQ;split
 ·exact hx
 rename_i hn;split
 ·exact hx
 rename_i s hs;have hm:s∈x.p.snaps:=List.mem_of_getElem? hs;have hk:(zcb x.p id).toNat<x.p.snaps.length:=(List.getElem?_eq_some_iff.1 hs).1;have h0:=zjc hp.1 s hm;split
 ·exact hx
 rename_i hz;split
 ·rename_i h;refine zmq hx (saneP_iff.2 ⟨zng hp.1 (by omega),hp.2.1,?_⟩) ?_ ?_
  ·have:=List.length_eraseIdx_le x.p.snaps (zcb x.p id).toNat;have:=hp.2.2;simp only;omega
  ·intro t ht;exact⟨t,List.mem_of_mem_eraseIdx ht,rfl⟩
  ·simp only;rw[List.getLast?_eq_getElem?,List.getLast?_eq_getElem?,List.length_eraseIdx_of_lt hk,List.getElem?_eraseIdx_of_ge (by omega)];congr 2
   omega
 ·rename_i h;refine zmq hx (saneP_iff.2 ⟨zrv hp.1 hs (by omega) (by omega),hp.2.1,by simpa using hp.2.2⟩) ?_ ?_
  ·intro t ht;rcases List.mem_or_eq_of_mem_set ht with g|g
   ·exact⟨t,g,rfl⟩
   ·subst g;exact⟨s,hm,rfl⟩
  ·simp only;rw[List.getLast?_eq_getElem?,List.getLast?_eq_getElem?,List.length_set];by_cases e:(zcb x.p id).toNat=x.p.snaps.length-1
   ·rw[←e,List.getElem?_set_self hk,hs];rfl
   ·rw[List.getElem?_set_ne e]
theorem zxv {x:Side}(hx:za0 x=true)(id:Int):za0 (endX x id).1=true:=by
 unfold endX;rw[zbh hx];unfold endQ;dsimp only;have h:=qg6 hx id;split
 ·exact h
 ·rename_i hc;simp only[Bool.or_eq_true,not_or,zks,decide_eq_true_eq]at hc;have H:=saneX_iff.1 h;have t:=rngB_iff.1 H.turn;have hf:=hc.2;exact saneX_iff.2 ⟨H.epoch,rngB_iff.2 ⟨by simp only[zhs]at*;omega,by simp only[zhs]at*;omega⟩,H.errs,H.inn,H.w,H.p,H.room,H.agrees⟩
theorem UpW.done {e:Int}{w:Work}(h:UpW e w)(ht:w.told=[])(a:Ans):UpW e (zfh w a):=by
 unfold zfh;split
 ·exact⟨h.hs,h.he,h.up⟩
 ·have q:=qw0 w.s w.r.id;rw[zbh h.hs,h.he]at q;exact⟨zxv h.hs _,q.2,q.1⟩
theorem UpW.step {e:Int}{w:Work}(h:UpW e w)(ht:w.told=[]):UpW e (stepQ w):=by
 unfold stepQ zid zfe zk4 zh6;dsimp only
 repeat' split
 all_goals first
  |exact h.done ht _
  |exact⟨h.hs,h.he,h.up⟩
  | (refine⟨?_,?_,h.up⟩
     ·have:=zwh h.hs;simp only[ze9];rw[zbh h.hs];exact this
     ·simp only[ze9];rw[zbh h.hs];exact h.he)
theorem qk2 (r:Req){s:Side}(hs:za0 s=true):UpW s.epoch (zeb r s):=by
 unfold zeb;rw[zbh hs];exact UpW.step (w:=⟨zec r,s,[]⟩) ⟨hs,rfl,.nil _⟩ rfl
theorem qrk (p:Pool){s:Side}(hs:za0 s=true)(draw:Int):za0 (zei p s draw).2.1=true∧(zei p s draw).2.1.epoch=s.epoch∧UpF s.epoch (zei p s draw).2.2.1:=by
 unfold zei;split
 ·exact⟨hs,rfl,.nil _⟩
 ·rename_i t ht;have w:=qk2 t.r hs;dsimp only;split
  ·exact⟨w.hs,w.he,w.up⟩
  ·exact⟨w.hs,w.he,w.up⟩
theorem qgg {s:Side}(hs:za0 s=true)(f:Frame):(zea s f).1.turn≤s.turn+1:=by
 have h:(zd4 s f).1.turn=s.turn:=by
  unfold zd4;dsimp only
  repeat' split
  all_goals rfl
 unfold zea;rw[zbh hs];unfold zgw;dsimp only
 repeat' split
 all_goals first
  | (simp only[ackX,zhs];omega)
  | (show s.turn≤s.turn+1;omega)
theorem qni {s:Side}(hs:za0 s=true)(id:Int):(endX s id).1.turn≤s.turn+1:=by
 unfold endX;rw[zbh hs];unfold endQ;dsimp only;split
 ·show s.turn≤s.turn+1;omega
 ·show s.turn+1≤s.turn+1;omega
theorem qju {w:Work}(hs:za0 w.s=true)(a:Ans):(zfh w a).s.turn≤w.s.turn+1:=by
 unfold zfh;split
 ·show w.s.turn≤w.s.turn+1;omega
 ·exact qni hs _
theorem qhl (p:Pool){s:Side}(hs:za0 s=true)(draw:Int):(zei p s draw).2.1.turn≤s.turn+1:=by
 have key:∀r:Req,(zeb r s).s.turn≤s.turn+1:=by
  intro r;unfold zeb;rw[zbh hs];generalize hw:(⟨zec r,s,[]⟩:Work)=w;have e:w.s=s:=by rw[←hw]
  have h1:za0 w.s=true:=by rw[e];exact hs
  rw[←e];unfold stepQ zid zfe zk4 zh6;dsimp only
  repeat' split
  all_goals first
   |exact qju h1 _
   | (show w.s.turn≤w.s.turn+1;omega)
   | (simp only[ze9];rw[zbh h1];show w.s.turn≤w.s.turn+1;omega)
 unfold zei;split
 ·show s.turn≤s.turn+1;omega
 ·dsimp only;split
  ·exact key _
  ·exact key _
theorem qa3 {P:Frame→Prop}:∀(fs:List Frame) (z:FLk×Int),(∀g∈z.1.q,P g)→(∀g∈fs,P g)→(∀g∈(fs.foldl zar z).1.q,P g)∧(fs.foldl zar z).1.epoch=z.1.epoch
 |[],z,h,_=>⟨h,rfl⟩
 |f::fs,z,h,hf=>by
  have key:(∀g∈(zar z f).1.q,P g)∧(zar z f).1.epoch=z.1.epoch:=by
   unfold zar;split
   ·unfold zie;split
    ·exact⟨h,rfl⟩
    split
    ·exact⟨h,rfl⟩
    ·refine⟨?_,rfl⟩;intro g hg;rcases List.mem_append.1 hg with q|q
     ·exact h g q
     ·simp only[List.mem_singleton]at q;subst q;exact hf _ List.mem_cons_self
   ·exact⟨h,rfl⟩
  have r:=qa3 fs (zar z f) key.1 (fun g hg=>hf g (List.mem_cons_of_mem _ hg));exact⟨r.1,r.2.trans key.2⟩
theorem zf2 {P:Frame→Prop}{l:FLk}(lost:Int){fs:List Frame}(h:∀g∈l.q,P g)(hf:∀g∈fs,P g):(∀g∈(za1 l lost fs).1.q,P g)∧(za1 l lost fs).1.epoch=l.epoch:=qa3 fs (l,lost) h hf
theorem zoi (l:FLk)(i:Int):(∀g∈(zaw l i).1.q,g∈l.q)∧(zaw l i).1.epoch=l.epoch∧(¬l.q=[]→(zaw l i).2.1∈l.q):=by
 unfold zaw;split
 ·exact⟨fun g hg=>hg,rfl,fun h=>absurd ‹_› h⟩
 ·rename_i hq;refine⟨?_,rfl,fun _=>?_⟩
  ·intro g hg;rcases List.mem_append.1 hg with q|q
   ·exact List.mem_of_mem_take q
   ·exact List.mem_of_mem_drop q
  ·have hlt:=zf4 i hq;simp only[List.getD_eq_getElem?_getD,List.getElem?_eq_getElem hlt,Option.getD_some];exact List.getElem_mem hlt
theorem qb7 {l:FLk}{i:Int}{f:FLk→Int→FLk×Int}(hf:f=zoe∨f=zgu∨f=zls):(∀g∈(f l i).1.q,g∈l.q)∧(f l i).1.epoch=l.epoch:=by
 have t:=zoi l i;rcases hf with rfl|rfl|rfl
 ·exact⟨t.1,t.2.1⟩
 ·unfold zgu;split
  ·exact⟨fun g hg=>hg,rfl⟩
  split
  ·exact⟨fun g hg=>hg,rfl⟩
  ·rename_i hq _;refine⟨?_,rfl⟩;intro g hg;rcases List.mem_append.1 hg with q|q
   ·exact q
   ·simp only[List.mem_singleton]at q;subst q;have hlt:=zf4 i hq;simp only[List.getD_eq_getElem?_getD,List.getElem?_eq_getElem hlt,Option.getD_some];exact List.getElem_mem hlt
 ·unfold zls;split
  ·exact⟨fun g hg=>hg,rfl⟩
  ·rename_i hq;refine⟨?_,rfl⟩;intro g hg;rcases List.mem_append.1 hg with q|q
   ·exact t.1 g q
   ·simp only[List.mem_singleton]at q;subst q;exact t.2.2 hq
structure SdN (n:Node)(B:Int):Prop where
 up:UpF n.up.epoch n.up.q
 dn:DnF n.up.epoch n.dn.q
 ud:n.dn.epoch=n.up.epoch
 se:n.sess.epoch=n.up.epoch
 xs:za0 n.side=true
 xe:n.side.epoch=n.up.epoch
 eB:n.up.epoch≤B
 tB:n.side.turn≤B
theorem SdN.mono {n:Node}{B C:Int}(h:SdN n B)(hc:B≤C):SdN n C:=⟨h.up,h.dn,h.ud,h.se,h.xs,h.xe,by have:=h.eB;omega,by have:=h.tB;omega⟩
theorem SdN.new (c:Cfg):SdN (zag c) 0:=⟨.nil _,.nil _,rfl,by show max 0 (min (0:Int) 2147483647)=0;decide,zvu _ _,rfl,by simp[zag],by simp[zag,newX]⟩
theorem SdN.renew {n:Node}{B:Int}(h:SdN n B)(ho:OkN n)(hB:B≤1000000)(mx lost:Int):SdN (za6 mx lost n).1 (B+1):=by
 have e0:=ho.up.e0;have eB:=h.eB;have tB:=h.tB;have ud:=h.ud;unfold za6;rw[if_neg (by omega)];dsimp only;have hx:=h.xe;have c1:(zao n.side (n.up.epoch+1)).1.epoch=n.up.epoch+1∧(zao n.side (n.up.epoch+1)).1.turn≤B+1:=by
  unfold zao;rw[zbh h.xs];unfold zcf;rw[if_neg (by omega),if_neg (by simp only[zks,decide_eq_true_eq];omega)];exact⟨rfl,by simp only[zhs];omega⟩
 have u:=zf2 (P:=fun g=>g.type≠1∧g.epoch=n.up.epoch+1) (l:=⟨n.up.epoch+1,[]⟩) lost (fs:=(zao n.side (n.up.epoch+1)).2.1) (by intro g hg;cases hg) (qeo n.side (n.up.epoch+1));refine⟨?_,?_,?_,?_,znw _ _,?_,?_,c1.2⟩
 ·rw[show(za1 ⟨n.up.epoch+1,[]⟩ lost (zao n.side (n.up.epoch+1)).2.1).1.epoch=n.up.epoch+1 from u.2];exact u.1
 ·exact .nil _
 ·show n.dn.epoch+1=_;rw[u.2,ud]
 ·show max 0 (min (n.up.epoch+1) 2147483647)=_;rw[u.2];simp only;omega
 ·show(zao n.side (n.up.epoch+1)).1.epoch=_;rw[u.2,c1.1]
 ·show(za1 ⟨n.up.epoch+1,[]⟩ lost (zao n.side (n.up.epoch+1)).2.1).1.epoch≤_;rw[u.2];simp only;omega
theorem SdN.pump {n:Node}{B:Int}(h:SdN n B)(ho:OkN n)(hB:B≤1000000)(mx:Int){p:Store}(hp:sanS p=true)(lost:Int):SdN (zc9 mx p lost n).1 (B+1):=by
 have q:=qhd n.sess p;rw[zbx ho.ss,h.se]at q;have d:=zf2 (P:=fun g=>g.type=1∧g.epoch=n.up.epoch) (l:=n.dn) lost (fs:=(Go.G.pump n.sess p).2.1) h.dn q.1;have m:SdN {n with sess:=(Go.G.pump n.sess p).1,dn:=(za1 n.dn lost (Go.G.pump n.sess p).2.1).1} B:=⟨h.up,d.1,by show(za1 _ _ _).1.epoch=_;rw[d.2];exact h.ud,q.2,h.xs,h.xe,h.eB,h.tB⟩;have o:=(zop ho.ss ho.so hp);unfold zc9;dsimp only;split
 ·exact m.mono (by omega)
 ·exact m.renew ⟨ho.d,o.1,o.2.1,ho.up,ho.dn.send _ _,ho.pl⟩ hB mx _
theorem SdN.set {n:Node}{B:Int}(h:SdN n B){w:Int}{l:FLk}(hs:∀g∈l.q,g∈(wayN n w).q)(he:l.epoch=(wayN n w).epoch):SdN (setW n w l) B:=by
 unfold wayN at hs he;unfold setW;by_cases hw:w=0
 ·rw[if_pos hw]at hs he⊢;refine⟨?_,?_,?_,?_,h.xs,?_,?_,h.tB⟩
  ·intro g hg;show _∧g.epoch=l.epoch;rw[he];exact h.up g (hs g hg)
  ·show DnF l.epoch _;rw[he];exact h.dn
  ·show n.dn.epoch=l.epoch;rw[he];exact h.ud
  ·show n.sess.epoch=l.epoch;rw[he];exact h.se
  ·show n.side.epoch=l.epoch;rw[he];exact h.xe
  ·show l.epoch≤B;rw[he];exact h.eB
 ·rw[if_neg hw]at hs he⊢;exact⟨h.up,fun g hg=>h.dn g (hs g hg),he.trans h.ud,h.se,h.xs,h.xe,h.eB,h.tB⟩
theorem SdN.bring {n:Node}{B:Int}(h:SdN n B)(ho:OkN n)(hB:B≤1000000)(mx:Int){p:Store}(hp:sanS p=true)(lost:Int)(s:MStep):SdN (zck mx p lost n s).1 (B+1):=by
 have t:=zoi (wayN n s.way) s.n;have m:=h.set t.1 t.2.1;have om:=ho.set s.way ((ho.way s.way).take s.n).1;unfold zck;dsimp only;split
 ·exact m.mono (by omega)
 split
 ·have q:=qqp (setW n s.way (zaw (wayN n s.way) s.n).1).side (zaw (wayN n s.way) s.n).2.1;rw[zbh m.xs,m.xe]at q;have u:=zf2 (P:=fun g=>g.type≠1∧g.epoch=(setW n s.way (zaw (wayN n s.way) s.n).1).up.epoch) lost m.up q.1;have tt:=qgg m.xs (zaw (wayN n s.way) s.n).2.1;have tB:=m.tB;have eB:=m.eB;refine⟨?_,?_,?_,?_,zvp _ _,?_,?_,by simp only;omega⟩
  ·intro g hg;show _∧g.epoch=(za1 _ _ _).1.epoch;rw[u.2];exact u.1 g hg
  ·show DnF (za1 _ _ _).1.epoch _;rw[u.2];exact m.dn
  ·show _=(za1 _ _ _).1.epoch;rw[u.2];exact m.ud
  ·show _=(za1 _ _ _).1.epoch;rw[u.2];exact m.se
  ·show _=(za1 _ _ _).1.epoch;rw[u.2];exact q.2
  ·show(za1 _ _ _).1.epoch≤_;rw[u.2];omega
 ·have he:=zxl (setW n s.way (zaw (wayN n s.way) s.n).1).sess p (zaw (wayN n s.way) s.n).2.1;rw[zbx om.ss]at he;have k:SdN {(setW n s.way (zaw (wayN n s.way) s.n).1)with sess:=(handle (setW n s.way (zaw (wayN n s.way) s.n).1).sess p (zaw (wayN n s.way) s.n).2.1).1} B:=⟨m.up,m.dn,m.ud,he.trans m.se,m.xs,m.xe,m.eB,m.tB⟩;have ok:OkN {(setW n s.way (zaw (wayN n s.way) s.n).1)with sess:=(handle (setW n s.way (zaw (wayN n s.way) s.n).1).sess p (zaw (wayN n s.way) s.n).2.1).1}:=⟨om.d,zek p _ om.ss,zjk _ om.ss om.so hp,om.up,om.dn,om.pl⟩;split
  ·exact k.mono (by omega)
  ·exact k.pump ok hB mx hp lost
theorem SdN.goes {n:Node}{B:Int}(h:SdN n B)(lost:Int)(s:MStep):SdN (zl0 lost n s).1 (B+1):=by
 have q:=qrk n.pool h.xs s.n;rw[h.xe]at q;have u:=zf2 (P:=fun g=>g.type≠1∧g.epoch=n.up.epoch) lost h.up q.2.2;have tt:=qhl n.pool h.xs s.n;have tB:=h.tB;have eB:=h.eB;unfold zl0;refine⟨?_,?_,?_,?_,q.1,?_,?_,by simp only;omega⟩
 ·intro g hg;show _∧g.epoch=(za1 _ _ _).1.epoch;rw[u.2];exact u.1 g hg
 ·show DnF (za1 _ _ _).1.epoch _;rw[u.2];exact h.dn
 ·show _=(za1 _ _ _).1.epoch;rw[u.2];exact h.ud
 ·show _=(za1 _ _ _).1.epoch;rw[u.2];exact h.se
 ·show _=(za1 _ _ _).1.epoch;rw[u.2];exact q.2.1
 ·show(za1 _ _ _).1.epoch≤_;rw[u.2];omega
theorem SdN.single {n:Node}{B:Int}(h:SdN n B)(ho:OkN n)(hB:B≤1000000)(mx:Int){p:Store}(hp:sanS p=true)(lost:Int)(s:MStep):SdN (za7 mx p lost n s).1 (B+1):=by
 have hm:∀f,(f=zoe∨f=zgu∨f=zls)→SdN (ze3 f lost n s).1 (B+1):=fun f hf=>by
  have t:=qb7 (l:=wayN n s.way) (i:=s.n) hf;exact(h.set t.1 t.2).mono (by omega)
 unfold za7;split
 ·exact h.bring ho hB mx hp lost s
 split
 ·exact hm _ (.inl rfl)
 split
 ·exact hm _ (.inr (.inl rfl))
 split
 ·exact hm _ (.inr (.inr rfl))
 split
 ·exact h.renew ho hB mx lost
 split
 ·exact⟨h.up,h.dn,h.ud,h.se,h.xs,h.xe,by have:=h.eB;simp only[zfj];omega,by have:=h.tB;simp only[zfj];omega⟩
 split
 ·exact h.goes lost s
 ·exact h.mono (by omega)
theorem SdN.tick {n:Node}{B:Int}(h:SdN n B)(ho:OkN n)(lost:Int):SdN {n with dn:=(za1 n.dn lost (zae n.sess)).1} B:=by
 have q:=qg3 ho.ss;rw[h.se]at q;have d:=zf2 (P:=fun g=>g.type=1∧g.epoch=n.up.epoch) (l:=n.dn) lost h.dn q;exact⟨h.up,d.1,by show(za1 _ _ _).1.epoch=_;rw[d.2];exact h.ud,h.se,h.xs,h.xe,h.eB,h.tB⟩
inductive NSt (M:Mesh)(s:MStep)(i:Nat)(n:Node):Node→Prop
 |same (h:5≤s.kind→s.kind≤9→s.kind≠6→s.side≠i):NSt M s i n n
 |pump (h0:s.kind=0) (he:zif M.p s.adds s.gone=0) (lost:Int):NSt M s i n (zc9 M.c.max (zgz M.p s.adds s.gone) lost n).1
 |tick (h0:s.kind=6) (lost:Int):NSt M s i n {n with dn:=(za1 n.dn lost (zae n.sess)).1}
 |one (h1:s.side=i) (h0:1≤s.kind∧s.kind≤9∧s.kind≠6) (hw:s.kind≤4→s.way=0∨s.way=1) (lost:Int):NSt M s i n (za7 M.c.max M.p lost n s).1
theorem zrz (mx:Int)(p:Store):∀(l:List Node) (lost e:Int) (i:Nat) (m:Node),(zbn mx p l lost e).1[i]? =some m→∃n lo,l[i]? =some n∧m=(zc9 mx p lo n).1
 |[],lost,e,i,m,h=>by simp[zbn]at h
 |n::l,lost,e,0,m,h=>⟨n,lost,rfl,by simpa[zbn]using h.symm⟩
 |n::l,lost,e,i+1,m,h=>by
  obtain⟨x,lo,h1,h2⟩:=zrz mx p l _ _ i m (by simpa[zbn]using h);exact⟨x,lo,by simpa using h1,h2⟩
theorem zrn :∀(l:List Node) (lost k:Int) (i:Nat) (m:Node),(zb4 l lost k).1[i]? =some m→∃n lo,l[i]? =some n∧m={n with dn:=(za1 n.dn lo (zae n.sess)).1}
 |[],lost,k,i,m,h=>by simp[zb4]at h
 |n::l,lost,k,0,m,h=>⟨n,lost,rfl,by simpa[zb4]using h.symm⟩
 |n::l,lost,k,i+1,m,h=>by
  obtain⟨x,lo,h1,h2⟩:=zrn l _ _ i m (by simpa[zb4]using h);exact⟨x,lo,by simpa using h1,h2⟩
theorem qfs (M:Mesh)(s:MStep){i:Nat}{m:Node}(h:(za2 M s).1.ns[i]? =some m):∃n,M.ns[i]? =some n∧NSt M s i n m:=by
 unfold za2 at h;split at h
 ·rename_i hn;exact⟨m,h,.same fun _ _ _ _=>by simp only at h;rw[hn]at h;cases h⟩
 split at h
 ·exact⟨m,h,.same fun _ _ _ _=>by omega⟩
 split at h
 ·rename_i h0;unfold zdk at h;dsimp only at h;split at h
  ·exact⟨m,h,.same fun _ _ _ _=>by omega⟩
  ·rename_i he;obtain⟨n,lo,h1,rfl⟩:=zrz _ _ _ _ _ i m h;exact⟨n,h1,.pump h0 (Decidable.not_not.1 he) lo⟩
 split at h
 ·rename_i h0;obtain⟨n,lo,h1,rfl⟩:=zrn _ _ _ i m h;exact⟨n,h1,.tick h0 lo⟩
 split at h
 ·rename_i ha;refine⟨m,h,.same fun _ _ _ q=>?_⟩;unfold zlg at ha;rw[if_pos (by omega),q,Int.toNat_natCast]at ha;simp only at h;rw[h]at ha;cases ha
 ·rename_i h1 h2 h3 h4 n ha;have hm:=zhe ha;split at h
  ·exact⟨m,h,.same fun _ _ _ _=>by omega⟩
  ·rename_i hw;simp only[List.getElem?_set]at h;split at h
   ·rename_i e;split at h
    ·cases h;subst e;exact⟨n,hm.2.2.2,.one (by omega) ⟨by omega,by omega,by omega⟩ (fun _=>by omega) M.lost⟩
    ·cases h
   ·rename_i e;exact⟨m,h,.same fun _ _ _ q=>e (by omega)⟩
theorem zg5 (M:Mesh)(s:MStep):(za2 M s).1.c=M.c∧((za2 M s).1.p=M.p∨(s.kind=0∧zif M.p s.adds s.gone=0∧(za2 M s).1.p=zgz M.p s.adds s.gone)):=by
 unfold za2;split
 ·exact⟨rfl,.inl rfl⟩
 split
 ·exact⟨rfl,.inl rfl⟩
 split
 ·rename_i h0;unfold zdk;dsimp only;split
  ·rename_i he;refine⟨rfl,.inl ?_⟩;show zgz _ _ _=_;rw[zgz,if_neg he]
  ·rename_i he;exact⟨rfl,.inr ⟨h0,Decidable.not_not.1 he,rfl⟩⟩
 split
 ·exact⟨rfl,.inl rfl⟩
 split
 ·exact⟨rfl,.inl rfl⟩
 ·split
  ·exact⟨rfl,.inl rfl⟩
  ·exact⟨rfl,.inl rfl⟩
theorem qly {c:Cfg}(I:Nat→Nat→Store→List MStep→Node→Prop)(h0:∀i,I 0 i (newS c.cap) [] (zag c))
  (hs:∀(M:Mesh) (l:List MStep) (s:MStep) (C:Int) (i:Nat) (n m:Node),OkM M C→M.c=c→OkSt s→l.length<100000→OkN n→I l.length i M.p l n→NSt M s i n m→I (l.length+1) i (za2 M s).1.p (l++[s]) m):
  ∀(l:List MStep),l.length≤100000→(∀s∈l,OkSt s)→∀i n,(zb8 (newM c) l).1.ns[i]? =some n→I l.length i (zb8 (newM c) l).1.p l n:=by
 have key:∀(k:Nat) (l:List MStep),l.length=k→k≤100000→(∀s∈l,OkSt s)→(zb8 (newM c) l).1.c=c∧∀i n,(zb8 (newM c) l).1.ns[i]? =some n→I k i (zb8 (newM c) l).1.p l n:=by
  intro k;induction k with
  |zero=>
   intro l hl _ _;rw[List.eq_nil_of_length_eq_zero hl];refine⟨rfl,fun i n hn=>?_⟩;have:=List.mem_of_getElem? hn;rw[List.eq_of_mem_replicate this];exact h0 i
  |succ k ih=>
   intro l hl hk hok;obtain⟨l',s,rfl⟩:∃l' s,l=l'++[s]:=⟨l.dropLast,l.getLast (by intro e;subst e;simp at hl),(List.dropLast_concat_getLast _).symm⟩;have hl':l'.length=k:=by simpa using hl
   obtain⟨hc,hi⟩:=ih l' hl' (by omega) (fun x hx=>hok x (List.mem_append_left _ hx));have ok:=(zfo l' (OkM.new c) (fun x hx=>hok x (List.mem_append_left _ hx))).1;rw[zd0];refine⟨(zg5 _ s).1.trans hc,fun i n hn=>?_⟩;obtain⟨x,hx,st⟩:=qfs _ s hn;have:=hs _ l' s _ i x n ok hc (hok s (by simp)) (by omega) (ok.ok x (List.mem_of_getElem? hx)) (hl'▸hi i x hx) st;rw[hl']at this;exact this
 intro l hl hok i n hn;exact(key l.length l rfl hl hok).2 i n hn
theorem Nonce.set_open (o:Nonce.Ou){k j:Int}(l:Int)(b:Bool)(hk:Nonce.kindB k=true)(hj:Nonce.kindB j=true):(o.set k l b).open' j=(if j=k then b else o.open' j)∧(o.set k l b).last j=(if j=k then l else o.last j)∧(o.set k l b).m=o.m:=by
 rcases Nonce.kindB_is hk with rfl|rfl|rfl|rfl<;>rcases Nonce.kindB_is hj with rfl|rfl|rfl|rfl<;>exact⟨rfl,rfl,rfl⟩
structure OutS (s:Sess):Prop where
 only:∀k,Nonce.kindB k=true→s.out.open' k=true→s.v.open_=true∧k=s.v.push.kind
 push:s.v.push=zFrame∨za4 s.v.push=0
theorem OutS.new (e m:Int):OutS (zcs e m):=by
 refine⟨fun k hk h=>?_,.inl rfl⟩;rcases Nonce.kindB_is hk with rfl|rfl|rfl|rfl<;>cases h
theorem qjv {o:Nonce.Ou}(ho:Nonce.goodB o=true){k n:Int}(h:(Nonce.done o k n).2=0):Nonce.kindB k=true∧o.open' k=true∧n=o.last k∧(Nonce.done o k n).1=o.set k (o.last k) false:=by
 unfold Nonce.done at h⊢;rw[zmv ho]at h⊢;unfold Nonce.doneQ at h⊢;split at h
 ·cases h
 split at h
 ·cases h
 ·rename_i h1 h2;rw[if_neg h1,if_neg h2];simp only[not_or,Bool.not_eq_false,Decidable.not_not]at h1 h2;exact⟨h1,h2.1,h2.2,rfl⟩
theorem ztp {o:Nonce.Ou}(ho:Nonce.goodB o=true){k:Int}(h:(Nonce.push o k).2.2=0):Nonce.kindB k=true∧o.open' k=false∧¬o.last k=o.m∧Nonce.push o k=(o.set k (o.last k+1) true,o.last k+1,0):=by
 unfold Nonce.push at h⊢;rw[zmv ho]at h⊢;unfold Nonce.pushQ at h⊢;split at h
 ·cases h
 split at h
 ·cases h
 split at h
 ·cases h
 ·rename_i h1 h2 h3;rw[if_neg h1,if_neg h2,if_neg h3];exact⟨by simpa using h1,by simpa using h2,h3,rfl⟩
theorem zsf {s:Sess}(p:Store)(f:Frame)(hs:zbr s=true):((handle s p f).1.out=s.out∧(handle s p f).1.v.open_=s.v.open_∧(handle s p f).1.v.push=s.v.push)∨
  ((Nonce.done s.out f.kind f.nonce).2=0∧s.v.open_=true∧f.kind=s.v.push.kind∧(handle s p f).1.out=(Nonce.done s.out f.kind f.nonce).1∧(handle s p f).1.v=ansV s.v f∧(ansV s.v f).open_=false∧(ansV s.v f).push=zFrame):=by
 unfold handle;rw[zbx hs];unfold zcj;split
 ·exact .inl ⟨rfl,rfl,rfl⟩
 split
 ·exact .inl ⟨rfl,rfl,rfl⟩
 split
 ·left;unfold zf7;split<;>exact⟨rfl,rfl,rfl⟩
 split
 ·exact .inl ⟨rfl,rfl,rfl⟩
 split
 ·unfold ackH;split
  ·exact .inl ⟨rfl,rfl,rfl⟩
  split
  ·exact .inl ⟨rfl,rfl,rfl⟩
  split
  ·exact .inl ⟨rfl,rfl,rfl⟩
  split
  ·exact .inl ⟨rfl,rfl,rfl⟩
  ·rename_i h1 h2 h3 _;right;have ho:s.v.open_=true:=by simpa using h2
   have hc:(ansV s.v f).open_=false:=by simpa using h3
   have hk:fitF s.v f=true:=by
    cases hf:fitF s.v f
    ·rw[ansV,if_neg (by simp[ho]),if_pos hf,ho]at hc;cases hc
    ·rfl
   have e:ansV s.v f={zai ⟨s.v.have_,s.v.held,s.v.turn,zFrame,false⟩ f.turn f.held with have_:=if f.err=0 then zak s.v.have_ s.v.push.adds s.v.push.gone else s.v.have_}:=by
    rw[ansV,if_neg (by simp[ho]),if_neg (by simp[hk])]
   refine⟨Decidable.not_not.1 h1,ho,?_,rfl,rfl,hc,?_⟩
   ·simp only[fitF,Bool.and_eq_true,decide_eq_true_eq]at hk;exact hk.1.2
   ·rw[e];unfold zai;split<;>rfl
 ·left;unfold zj5 zai;refine⟨rfl,?_,?_⟩<;>(dsimp only;split<;>rfl)
theorem OutS.handle {s:Sess}(h:OutS s)(p:Store)(f:Frame)(hs:zbr s=true):OutS (Go.G.handle s p f).1∧(Go.G.handle s p f).1.out.m=s.out.m∧∀k,Nonce.kindB k=true→(Go.G.handle s p f).1.out.last k=s.out.last k:=by
 rcases zsf p f hs with⟨e1,e2,e3⟩|⟨h1,h2,h3,e1,e2,e3,e4⟩
 ·rw[e1];exact⟨⟨fun k hk ho=>by rw[e2,e3];rw[e1]at ho;exact h.only k hk ho,by rw[e3];exact h.push⟩,rfl,fun _ _=>rfl⟩
 ·obtain⟨q1,q2,q3,q4⟩:=qjv (saneS_iff.1 hs).out h1;rw[q4]at e1;rw[e1];refine⟨⟨fun k hk ho=>?_,.inl (by rw[e2];exact e4)⟩,(Nonce.set_open s.out _ _ q1 q1).2.2,fun k hk=>?_⟩
  ·rw[e1,(Nonce.set_open s.out _ _ q1 hk).1]at ho;split at ho
   ·cases ho
   ·rename_i hne;exact absurd ((h.only k hk ho).2.trans h3.symm) hne
  ·rw[(Nonce.set_open s.out _ _ q1 hk).2.1];split
   ·rename_i e;rw[e]
   ·rfl
theorem OutS.pump {s:Sess}(h:OutS s){p:Store}(hs:zbr s=true)(hp:sanS p=true){B:Int}(hl:∀k,Nonce.kindB k=true→s.out.last k≤B):
  OutS (Go.G.pump s p).1∧(Go.G.pump s p).1.out.m=s.out.m∧(∀k,Nonce.kindB k=true→(Go.G.pump s p).1.out.last k≤B+1)∧(B<s.out.m→(Go.G.pump s p).2.2=0):=by
 have hg:=(saneS_iff.1 hs).out;have no:∀x:Step,s.v.open_=false→Nonce.kindB x.kind=true→s.out.open' x.kind=false:=fun x ho hk=>by
  cases e:s.out.open' x.kind
  ·rfl
  ·have:=(h.only _ hk e).1;rw[ho]at this;cases this
 have z:B<s.out.m→(Go.G.pump s p).2.2=0:=fun hB=>by
  unfold Go.G.pump;rw[zbx hs];unfold zf3;split
  ·rfl
  rename_i hi;split
  ·rfl
  ·rename_i x hx;have hk:=qb1 (zzg hx).kind;have ho:s.v.open_=false:=by
    simp only[idle,Bool.not_eq_true,Bool.or_eq_false_iff]at hi;exact hi.1.2
   have e:(Nonce.push s.out x.kind).2.2=0:=by
    unfold Nonce.push;rw[zmv hg];unfold Nonce.pushQ;have:=hl _ hk;rw[if_neg (by simp[hk]),if_neg (by simp[no x ho hk]),if_neg (by omega)]
   unfold zk9;rw[if_pos e]
 refine⟨?_,?_,?_,z⟩;all_goals
  rcases zjg hs p with⟨e,_⟩|⟨x,c1,c2,c3,c4,c5⟩
 ·rw[e];exact h
 ·obtain⟨q1,q2,q3,q4⟩:=ztp hg c4;have fo:=zti hs hp c1 c3 c4;rw[c5];refine⟨fun k hk ho=>⟨rfl,?_⟩,.inr fo.sane⟩;simp only at ho;rw[q4,(Nonce.set_open s.out _ _ q1 hk).1]at ho;split at ho
  ·assumption
  ·have:=(h.only k hk ho).1;rw[c2]at this;cases this
 ·rw[e]
 ·obtain⟨q1,q2,q3,q4⟩:=ztp hg c4;rw[c5];simp only[q4];exact(Nonce.set_open s.out _ _ q1 q1).2.2
 ·rw[e];intro k hk;have:=hl k hk;omega
 ·obtain⟨q1,q2,q3,q4⟩:=ztp hg c4;rw[c5];intro k hk;simp only[q4];rw[(Nonce.set_open s.out _ _ q1 hk).2.1];have:=hl k hk;split
  ·rename_i e;subst e;omega
  ·omega
def zqx (p:Pins)(k:Key):Prop:=∃s∈p.snaps,∃r∈s.l,r.key=k
theorem zw3 {p:Pins}(h:zfc p=true){k:Key}:k∈zcw p↔zqx p k:=by
 unfold zcw qm6;rw[zc8 h,(zhl _ (o:=[]) List.Pairwise.nil).2 k];simp only[List.not_mem_nil,false_or,List.mem_map,List.mem_flatMap,zqx];constructor
 ·rintro⟨r,⟨s,h1,h2⟩,h3⟩;exact⟨s,h1,r,h2,h3⟩
 ·rintro⟨s,h1,r,h2,h3⟩;exact⟨r,⟨s,h1,h2⟩,h3⟩
inductive Applied (s:Side)(f:Frame)(t:Side):Prop
 |bad (e:Int) (h0:e≠0) (he:t.errs.get f.kind=e) (hw:t.w=s.w) (hp:t.p=s.p)
 |good (he:t.errs.get f.kind=0) (hm:zdq s.w.c.cap (zak s.w.c.l f.adds f.gone)=0) (hc:t.w.c=⟨s.w.c.cap,zak s.w.c.l f.adds f.gone⟩) (hs:t.w.shown=zau (zak s.w.c.l f.adds f.gone))
   (hp:t.p=s.p∨t.p=⟨s.p.next+1,zzs s.p++[⟨s.p.next+1,0,t.w.shown⟩]⟩)
theorem qds {p:Pins}(h:zfc p=true){l:List Res}(h0:(zbp p l).2.2=0):(zbp p l).1=⟨p.next+1,zzs p++[⟨p.next+1,0,l⟩]⟩:=by
 unfold zbp at h0⊢;rw[zc8 h]at h0⊢;unfold zdf at h0⊢;split at h0
 ·cases h0
 split at h0
 ·cases h0
 ·rename_i h1 h2;rw[if_neg h1,if_neg h2]
theorem qk1 {w:Warm}(h:zg9 w=true)(a:List Res)(g:List Key):
  ((zcr w a g).2.2≠0∧(zcr w a g).1=w∧(zcr w a g).2.1=false)∨
  ((zcr w a g).2.2=0∧zdq w.c.cap (zak w.c.l a g)=0∧(zcr w a g).1.c=⟨w.c.cap,zak w.c.l a g⟩∧(zcr w a g).1.shown=zau (zak w.c.l a g)∧((zcr w a g).2.1=false→(zcr w a g).1.ready=w.ready∧(zcr w a g).1.shown=w.shown)):=by
 have hc:=(saneW_iff.1 h).1;unfold zcr;rw[zvm h];unfold zh7 zgd;rw[zfz hc];unfold zj6;by_cases hm:zdq w.c.cap (zak w.c.l a g)=0
 ·right;have sc:zkc ⟨w.c.cap,zak w.c.l a g⟩=true:=by
   rw[saneC_iff];have:=must_iff.1 hm;exact⟨(saneC_iff.1 hc).1,this.1,this.2.1,this.2.2⟩
  have e:zfi ⟨w.c.cap,zak w.c.l a g⟩=zau (zak w.c.l a g):=by unfold zfi;rw[zfz sc]
  simp only[hm,if_true,ne_eq,not_true_eq_false,if_false];unfold zmj;rw[e];split
  ·rename_i hq;exact⟨trivial,trivial,rfl,hq.symm,fun _=>⟨rfl,rfl⟩⟩
  ·exact⟨trivial,trivial,rfl,rfl,fun q=>by cases q⟩
 ·left;simp only[hm,if_false,ne_eq,not_false_eq_true,if_true];exact⟨trivial,trivial,trivial⟩
theorem qkz {s:Side}(h:SaneX s)(f:Frame)(h0:(zd4 s f).2=0):
  Applied s f (zd4 s f).1∧(zd4 s f).1.inn=s.inn∧(zd4 s f).1.epoch=s.epoch∧(zd4 s f).1.turn=s.turn∧(zd4 s f).1.up=s.up:=by
 have w:=qk1 h.w f.adds f.gone;unfold zd4 at h0⊢;dsimp only at h0⊢;by_cases hq:(zcr s.w f.adds f.gone).2.1=true∧¬(zbp s.p (zcr s.w f.adds f.gone).1.shown).2.2=0
 ·rw[if_pos hq]at h0;exact absurd h0 hq.2
 rw[if_neg hq];generalize hp:(if(zcr s.w f.adds f.gone).2.1=true then(zbp s.p (zcr s.w f.adds f.gone).1.shown).1 else s.p)=p;by_cases hr:zpx p=false
 ·rw[if_pos hr];exact⟨.bad 8 (by decide) (zi4 _) rfl rfl,rfl,rfl,rfl,rfl⟩
 ·rw[if_neg hr];refine⟨?_,rfl,rfl,rfl,rfl⟩;rcases w with⟨w1,w2,w3⟩|⟨w1,w2,w3,w4,w5⟩
  ·exact .bad _ w1 (zi4 _) w2 (by rw[←hp,w3];rfl)
  ·refine .good (by rw[←w1];exact zi4 _) w2 w3 w4 ?_;show p=_∨_;rw[←hp];split
   ·rename_i ht;right;rw[not_and,Decidable.not_not]at hq;exact qds h.p (hq ht)
   ·exact .inl rfl
inductive SideOut (s:Side)(f:Frame):Side×List Frame×Int→Prop
 |none (e:Int) (h0:e≠0):SideOut s f (s,[],e)
 |again (hr:zbo s f=0) (hk:Nonce.kindB f.kind=true) (hn:f.nonce=s.inn.last f.kind):SideOut s f ((ackX s f).1,(ackX s f).2,9)
 |take (t:Side) (hr:zbo s f=0) (hk:Nonce.kindB f.kind=true) (hn:f.nonce=s.inn.last f.kind+1) (ha:Applied s f t) (hi:t.inn=s.inn.set f.kind f.nonce) (h1:t.epoch=s.epoch) (h2:t.turn=s.turn) (h3:t.up=s.up):SideOut s f ((ackX t f).1,(ackX t f).2,0)
theorem qp2 {i:Nonce.Nn}(h:Nonce.soundB i=true)(k n:Int):((Nonce.take i k n).2=0∧Nonce.kindB k=true∧n=i.last k+1∧(Nonce.take i k n).1=i.set k n)∨((Nonce.take i k n).2=9∧Nonce.kindB k=true∧n=i.last k)∨((Nonce.take i k n).2≠0∧(Nonce.take i k n).2≠9):=by
 unfold Nonce.take Nonce.inF;rw[if_pos h];unfold Nonce.takeQ;split
 ·exact .inr (.inr ⟨by simp,by simp⟩)
 rename_i hk;split
 ·rename_i hq;exact .inr (.inl ⟨rfl,by simpa using hk,hq.2⟩)
 split
 ·exact .inr (.inr ⟨by simp,by simp⟩)
 ·rename_i hq;exact .inl ⟨rfl,by simpa using hk,by omega,rfl⟩
theorem qaz {s:Side}(h:za0 s=true)(f:Frame):SideOut s f (zea s f):=by
 have S:=saneX_iff.1 h;unfold zea;rw[zbh h];unfold zgw;split
 ·exact .none _ ‹_›
 rename_i hr;have hr:=Decidable.not_not.1 hr;dsimp only;have t:=qp2 S.inn f.kind f.nonce;split
 ·rename_i h0;obtain⟨hk,hn,hi⟩:Nonce.kindB f.kind=true∧f.nonce=s.inn.last f.kind+1∧(Nonce.take s.inn f.kind f.nonce).1=s.inn.set f.kind f.nonce:=by
   rcases t with⟨_,a,b,c⟩|⟨a,_⟩|⟨a,_⟩
   ·exact⟨a,b,c⟩
   ·rw[h0]at a;cases a
   ·exact absurd h0 a
  split
  ·exact .none _ (by decide)
  split
  ·exact .none _ ‹_›
  rename_i h2;have q:=qkz S f (Decidable.not_not.1 h2);refine .take {(zd4 s f).1 with inn:=(Nonce.take s.inn f.kind f.nonce).1} hr hk hn ?_ hi q.2.2.1 q.2.2.2.1 q.2.2.2.2;rcases q.1 with⟨e,a,b,c,d⟩|⟨a,b,c,d,e⟩
  ·exact .bad e a b c d
  ·exact .good a b c d e
 split
 ·rename_i h0 h9;obtain⟨hk,hn⟩:Nonce.kindB f.kind=true∧f.nonce=s.inn.last f.kind:=by
   rcases t with⟨a,_⟩|⟨_,a,b⟩|⟨_,a⟩
   ·rw[h9]at a;cases a
   ·exact⟨a,b⟩
   ·exact absurd h9 a
  split
  ·exact .none _ (by decide)
  ·exact .again hr hk hn
 ·exact .none _ ‹_›
theorem zn0 {s:Side}{f:Frame}{t:Side}(h:Applied s f t){k:Key}(hk:zqx t.p k):zqx s.p k∨∃r∈zau (zak s.w.c.l f.adds f.gone),r.key=k∧t.w.c.l=zak s.w.c.l f.adds f.gone:=by
 rcases h with⟨e,h0,he,hw,hp⟩|⟨he,hm,hc,hs,hp|hp⟩
 ·rw[hp]at hk;exact .inl hk
 ·rw[hp]at hk;exact .inl hk
 ·rw[hp]at hk;obtain⟨q,h1,r,h2,h3⟩:=hk;rcases List.mem_append.1 h1 with h1|h1
  ·exact .inl ⟨q,(List.mem_filter.1 h1).1,r,h2,h3⟩
  ·rw[List.mem_singleton.1 h1]at h2;exact .inr ⟨r,hs▸h2,h3,by rw[hc]⟩
theorem znz {s:Side}{f:Frame}{t:Side}(h:Applied s f t){q:Snap}(hq:q∈t.p.snaps):q∈s.p.snaps∨(q.l=zau (zak s.w.c.l f.adds f.gone)∧t.w.c.l=zak s.w.c.l f.adds f.gone∧zdq s.w.c.cap (zak s.w.c.l f.adds f.gone)=0):=by
 rcases h with⟨e,h0,he,hw,hp⟩|⟨he,hm,hc,hs,hp|hp⟩
 ·rw[hp]at hq;exact .inl hq
 ·rw[hp]at hq;exact .inl hq
 ·rw[hp]at hq;rcases List.mem_append.1 hq with h1|h1
  ·exact .inl (List.mem_filter.1 h1).1
  ·rw[List.mem_singleton.1 h1];exact .inr ⟨hs,by rw[hc],hm⟩
def InP (p:Store)(r:Res):Prop:=∃l∈p.hist,r∈l
theorem InP.find {p:Store}(hp:sanS p=true){r:Res}(h:InP p r):zku p r.key r.ver=some r:=by
 obtain⟨l,hl,hr⟩:=h;obtain⟨hch,hne⟩:=zrt hp;obtain⟨j,m,h1,h2,h3⟩:=hch.ver l hl r hr;unfold zku;rw[h1];have:atS p (j:Int)=some m:=by
  unfold atS;rw[if_pos (by omega),zmi hne];simpa using h2
 rw[this];simp only[Option.getD_some,h3,h1,if_true]
theorem zzu {p:Store}(hp:sanS p=true){c:List Res}(ha:AscR c)(h:∀r∈c,InP p r):zd6 p (ze0 c)=c:=by
 have hm:(ze0 c).map (ofM p)=c:=by
  unfold ze0;rw[List.map_map]
  conv=>rhs;rw[←List.map_id c]
  exact List.map_congr_left fun r hr=>by
   show ofM p ⟨r.key,r.ver⟩=r;simp[ofM,(h r hr).find hp]
 unfold zd6;rw[hm,zl2 c [] (by simpa using ha)];rfl
structure Whole (l:List Res):Prop where
 tab:tabE l=0
 serv:zbj l=0
 miss:zra l=[]
 full:∀r∈l,zf8 r=false
theorem zy9 {cap:Int}{l:List Res}(h:zdq cap l=0):Whole (zau l):=by
 obtain⟨ht,hc,hs⟩:=must_iff.1 h;have ha:AscR l:=zcc ht;have key:∀r∈zau l,∀q∈zbs r,(getR (zau l) q).isSome=true:=by
  intro r hr q hq;obtain⟨h1,h2⟩:=mem_reachR.1 hr;have h3:=((served_iff.1 hs) r h1 h2).1 q hq;obtain⟨x,hx⟩:=Option.isSome_iff_exists.1 h3;have hR:Rch l q:=.step h2 (zbz ha h1) hq h3;have:x∈zau l:=mem_reachR.2 ⟨zce hx,by rw[zfs hx];exact hR⟩;rw[←zfs hx,zbz (zss ha) this];rfl
 have hl:=tab_len ht;refine⟨qun ?_ ?_ (zss ha) ?_,served_iff.2 fun r hr hR=>⟨key r hr,?_⟩,?_,fun r hr=>((served_iff.1 hs) r (mem_reachR.1 hr).1 (mem_reachR.1 hr).2).2⟩
 ·exact Nat.le_trans (List.length_filter_le _ _) hl
 ·intro r hr;exact zpb ht (mem_reachR.1 hr).1
 ·exact(qfo ht).sublist (((List.filter_sublist (l:=l)).filter _).map _)
 ·exact((served_iff.1 hs) r (mem_reachR.1 hr).1 (mem_reachR.1 hr).2).2
 ·have:zlk (zau l) (zau l)=[]:=by
   unfold zlk;rw[List.filter_eq_nil_iff];intro q hq;obtain⟨r,hr,hq⟩:=List.mem_flatMap.1 hq;simp[noR,key r hr q hq]
  unfold zra;rw[this];rfl
structure SideI (p:Store)(s:Side):Prop where
 inn:∀r∈s.w.c.l,InP p r
 sn:∀q∈s.p.snaps,∀r∈q.l,InP p r
 whole:∀q∈s.p.snaps,Whole q.l
 keep:∀k,k.kind≠0→zqx s.p k→(getR s.w.c.l k).isSome=true
def HKin (p:Pins)(l:List Key):Prop:=∀k,k.kind≠0→zqx p k→k∈l
def isT (f:Frame):Prop:=f.type=2∨f.type=3
structure Com (p:Store)(s:Side)(v:Sess)(U D:List Frame):Prop where
 si:SideI p s
 os:OutS v
 ut:∀f∈U,isT f→f.turn≤s.turn
 vt:v.v.turn≤s.turn
 ak:∀f∈U,f.type=2→Nonce.kindB f.kind=true∧f.nonce≤s.inn.last f.kind
 dk:∀f∈D,Nonce.kindB f.kind=true
 ad:v.v.open_=true→∀r∈v.v.push.adds,InP p r
 rs:v.v.open_=true→∀r,r∈v.v.have_∨r∈v.v.push.adds→∀x∈v.v.push.adds,x.key=r.key→r.ver≤x.ver
structure Seen (s:Side)(v:Sess)(U:List Frame):Prop where
 hc:HKin s.p v.v.held
 hu:∀f∈U,isT f→v.v.turn<f.turn→HKin s.p f.held
inductive Ph (s:Side)(v:Sess)(U D:List Frame):Prop
 |fresh (hg:v.greeted=false) (ho:v.v.open_=false) (hd:∀f∈D,False) (hh:∀f∈U,f.type=0→f.have_=ze0 s.w.c.l) (hn:∀k,Nonce.kindB k=true→s.inn.last k=v.out.last k)
   (hc:v.v.turn=0∨HKin s.p v.v.held) (hu:∀f∈U,isT f→v.v.turn<f.turn→HKin s.p f.held)
 |closed (hg:v.greeted=true) (ho:v.v.open_=false) (hv:v.v.have_=s.w.c.l) (hn:∀k,Nonce.kindB k=true→s.inn.last k=v.out.last k) (hd:∀f∈D,f.nonce≤s.inn.last f.kind) (hs:Seen s v U)
 |sent (hg:v.greeted=true) (ho:v.v.open_=true) (hv:v.v.have_=s.w.c.l) (hn:∀k,Nonce.kindB k=true→s.inn.last k=if k=v.v.push.kind then v.out.last k-1 else v.out.last k)
   (hd:∀f∈D,f=v.v.push∨f.nonce≤s.inn.last f.kind) (hs:Seen s v U) (hx:v.v.push.kind≠0→∀k∈v.v.push.gone,k.kind=v.v.push.kind∧¬zqx s.p k∧v.v.push.adds=[])
 |taken (hg:v.greeted=true) (ho:v.v.open_=true) (hv:s.w.c.l=if s.errs.get v.v.push.kind=0 then zak v.v.have_ v.v.push.adds v.v.push.gone else v.v.have_) (hn:∀k,Nonce.kindB k=true→s.inn.last k=v.out.last k)
   (hd:∀f∈D,f.nonce≤s.inn.last f.kind) (T:Int) (hTs:T≤s.turn) (hT:∀f∈U,isT f→T≤f.turn→HKin s.p f.held) (hm:∀f∈U,f.type=2→f.kind=v.v.push.kind→f.nonce=v.v.push.nonce→f.err=s.errs.get f.kind∧T≤f.turn) (hc:T≤v.v.turn→HKin s.p v.v.held)
   (hx:v.v.push.kind≠0→∀k∈v.v.push.gone,¬zqx s.p k)
structure NI (p:Store)(s:Side)(v:Sess)(U D:List Frame):Prop where
 com:Com p s v U D
 ph:Ph s v U D
theorem NI.mono {p:Store}{s:Side}{v:Sess}{U D U' D':List Frame}(h:NI p s v U D)(hU:∀f∈U',f∈U)(hD:∀f∈D',f∈D):NI p s v U' D':=by
 obtain⟨c,h⟩:=h;refine⟨⟨c.si,c.os,fun f hf=>c.ut f (hU f hf),c.vt,fun f hf=>c.ak f (hU f hf),fun f hf=>c.dk f (hD f hf),c.ad,c.rs⟩,?_⟩;cases h with
 |fresh hg ho hd hh hn hc hu=>exact .fresh hg ho (fun f hf=>hd f (hD f hf)) (fun f hf=>hh f (hU f hf)) hn hc (fun f hf=>hu f (hU f hf))
 |closed hg ho hv hn hd hs=>exact .closed hg ho hv hn (fun f hf=>hd f (hD f hf)) ⟨hs.hc,fun f hf=>hs.hu f (hU f hf)⟩
 |sent hg ho hv hn hd hs hx=>exact .sent hg ho hv hn (fun f hf=>hd f (hD f hf)) ⟨hs.hc,fun f hf=>hs.hu f (hU f hf)⟩ hx
 |taken hg ho hv hn hd T hTs hT hm hc hx=>exact .taken hg ho hv hn (fun f hf=>hd f (hD f hf)) T hTs (fun f hf=>hT f (hU f hf)) (fun f hf=>hm f (hU f hf)) hc hx
theorem NI.store {p p':Store}{s:Side}{v:Sess}{U D:List Frame}(h:NI p s v U D)(hp:∀r,InP p r→InP p' r):NI p' s v U D:=by
 obtain⟨c,h⟩:=h;exact⟨⟨⟨fun r hr=>hp r (c.si.inn r hr),fun q hq r hr=>hp r (c.si.sn q hq r hr),c.si.whole,c.si.keep⟩,c.os,c.ut,c.vt,c.ak,c.dk,fun ho r hr=>hp r (c.ad ho r hr),c.rs⟩,h⟩
theorem NI.tick {p:Store}{s:Side}{v:Sess}{U D D':List Frame}(hs:zbr v=true)(h:NI p s v U D)(hD:∀f∈D',f∈D∨f∈zae v):NI p s v U D':=by
 obtain⟨c,h⟩:=h;have hr:∀f∈zae v,v.v.open_=true∧f=v.v.push:=by
  intro f hf;unfold zae at hf;rw[zbx hs]at hf;split at hf
  ·exact⟨‹_›,List.mem_singleton.1 hf⟩
  ·cases hf
 have hw:=(saneS_iff.1 hs).waits;have kb:v.v.open_=true→Nonce.kindB v.v.push.kind=true:=fun ho=>by
  have w:=hw ho;simp only[zbl,Bool.and_eq_true,decide_eq_true_eq]at w;exact qb1 (zk8 w.1.1.1.1.2)
 refine⟨⟨c.si,c.os,c.ut,c.vt,c.ak,fun f hf=>(hD f hf).elim (c.dk f) fun q=>by rw[(hr f q).2];exact kb (hr f q).1,c.ad,c.rs⟩,?_⟩;cases h with
 |fresh hg ho hd hh hn hc hu=>exact .fresh hg ho (fun f hf=>(hD f hf).elim (hd f) fun q=>by have:=(hr f q).1;rw[ho]at this;cases this) hh hn hc hu
 |closed hg ho hv hn hd hs=>exact .closed hg ho hv hn (fun f hf=>(hD f hf).elim (hd f) fun q=>by have:=(hr f q).1;rw[ho]at this;cases this) hs
 |sent hg ho hv hn hd hs hx=>exact .sent hg ho hv hn (fun f hf=>(hD f hf).elim (hd f) fun q=>.inl (hr f q).2) hs hx
 |taken hg ho hv hn hd T hTs hT hm hc hx=>
  refine .taken hg ho hv hn (fun f hf=>(hD f hf).elim (hd f) fun q=>?_) T hTs hT hm hc hx;rw[(hr f q).2];have w:=hw ho;simp only[zbl,Bool.and_eq_true,decide_eq_true_eq]at w;rw[hn _ (kb ho),w.2];exact Int.le_refl _
theorem qox (i:Nonce.Nn){k j:Int}(n:Int)(hk:Nonce.kindB k=true)(hj:Nonce.kindB j=true):(i.set k n).last j=if j=k then n else i.last j:=by
 rcases Nonce.kindB_is hk with rfl|rfl|rfl|rfl<;>rcases Nonce.kindB_is hj with rfl|rfl|rfl|rfl<;>rfl
theorem qao {v:Sess}(hv:zbr v=true)(ho:v.v.open_=true):v.greeted=true∧za4 v.v.push=0∧v.v.push.type=1∧v.v.push.epoch=v.epoch∧v.out.open' v.v.push.kind=true∧v.out.last v.v.push.kind=v.v.push.nonce∧Nonce.kindB v.v.push.kind=true:=by
 have w:=(saneS_iff.1 hv).waits ho;simp only[zbl,Bool.and_eq_true,decide_eq_true_eq]at w;exact⟨w.1.1.1.1.1,w.1.1.1.1.2,w.1.1.1.2,w.1.1.2,w.1.2,w.2,qb1 (zk8 w.1.1.1.1.2)⟩
theorem HKin.of {p:Pins}(h:zfc p=true):HKin p (zcw p):=fun k _ hk=>(zw3 h).2 hk
theorem qdu {l a:List Res}{g:List Key}{k:Key}(h:(getR l k).isSome=true)(hg:k∉g):(getR (zak l a g) k).isSome=true:=by
 rw[zh0];split
 ·rfl
 ·rw[if_neg hg];exact h
theorem SideI.apply {p:Store}{s t:Side}{f:Frame}(h:SideI p s)(hs:za0 s=true)(ha:Applied s f t)(hf:za4 f=0)(had:∀r∈f.adds,InP p r)(hx:f.kind≠0→∀k∈f.gone,¬zqx s.p k):SideI p t:=by
 have hc:=(saneW_iff.1 (saneX_iff.1 hs).w).1;have asc:AscR s.w.c.l:=zcc (saneC_iff.1 hc).2.1;have pin:∀r∈zak s.w.c.l f.adds f.gone,InP p r:=fun r hr=>(ziz hr).elim (h.inn r) (had r);have cl:(t.w.c.l=s.w.c.l∧t.p=s.p)∨t.w.c.l=zak s.w.c.l f.adds f.gone:=by
  rcases ha with⟨e,h0,he,hw,hp⟩|⟨he,hm,hc,hs,hp⟩
  ·exact .inl ⟨by rw[hw],hp⟩
  ·exact .inr (by rw[hc])
 have gk:∀k∈f.gone,k.kind=f.kind:=by
  have:=(frameE_zero.1 hf).alike;simp only[zkm,Bool.and_eq_true,List.all_eq_true,decide_eq_true_eq]at this;exact this.2
 refine⟨?_,?_,?_,?_⟩
 ·rcases cl with e|e
  ·rw[e.1];exact h.inn
  ·rw[e];exact pin
 ·intro q hq r hr;rcases znz ha hq with e|⟨e,_⟩
  ·exact h.sn q e r hr
  ·rw[e]at hr;exact pin r (List.mem_filter.1 hr).1
 ·intro q hq;rcases znz ha hq with e|⟨e,_,hm⟩
  ·exact h.whole q e
  ·rw[e];exact zy9 hm
 ·intro k hk hh;rcases zn0 ha hh with e|⟨r,hr,e,e2⟩
  ·rcases cl with q|q
   ·rw[q.1];exact h.keep k hk e
   ·rw[q];refine qdu (h.keep k hk e) fun hg=>?_;have:=gk k hg;exact hx (by omega) k hg e
  ·rw[e2,←e,zbz (zm4 asc _ _) (List.mem_filter.1 hr).1];rfl
theorem NI.side {p:Store}{s:Side}{v:Sess}{U D U':List Frame}(h:NI p s v U D)(hs:za0 s=true)(hv:zbr v=true){f:Frame}(hf:f∈D)(hU:∀g∈U',g∈U∨g∈(zea s f).2.1):NI p (zea s f).1 v U' D:=by
 have S:=saneX_iff.1 hs;have o:=qaz hs f;have ss:=zvp s f;generalize zea s f=R at o hU ss;obtain⟨c,h⟩:=h;cases o with
 |none e h0=>exact NI.mono ⟨c,h⟩ (fun g hg=>(hU g hg).elim id fun q=>by cases q) (fun g hg=>hg)
 |again hr hk hn=>
  have ack:∀g∈U',g∈U∨(g.type=2∧g.kind=f.kind∧g.nonce=f.nonce∧g.turn=s.turn+1∧g.err=s.errs.get f.kind∧g.held=zcw s.p):=fun g hg=>(hU g hg).elim .inl fun q=>.inr (by
   rw[List.mem_singleton.1 q];exact⟨rfl,rfl,rfl,rfl,rfl,rfl⟩)
  have hk0:=HKin.of S.p;have cm:Com p (ackX s f).1 v U' D:=by
   refine⟨⟨c.si.inn,c.si.sn,c.si.whole,c.si.keep⟩,c.os,fun g hg ht=>?_,?_,fun g hg ht=>?_,c.dk,c.ad,c.rs⟩
   ·show g.turn≤s.turn+1;rcases ack g hg with q|q
    ·have:=c.ut g q ht;omega
    ·omega
   ·show v.v.turn≤s.turn+1;have:=c.vt;omega
   ·rcases ack g hg with q|q
    ·exact c.ak g q ht
    ·rw[q.2.1,q.2.2.1];exact⟨hk,by show f.nonce≤s.inn.last _;omega⟩
  have hu':(∀g∈U,isT g→v.v.turn<g.turn→HKin s.p g.held)→∀g∈U',isT g→v.v.turn<g.turn→HKin s.p g.held:=fun hu g hg ht hl=>by
   rcases ack g hg with q|q
   ·exact hu g q ht hl
   ·rw[q.2.2.2.2.2];exact hk0
  refine⟨cm,?_⟩;cases h with
  |fresh hg ho hd hh hn' hc hu=>exact(hd f hf).elim
  |closed hg ho hv' hn' hd hs=>exact .closed hg ho hv' hn' hd ⟨hs.hc,hu' hs.hu⟩
  |sent hg ho hv' hn' hd hs hx=>exact .sent hg ho hv' hn' hd ⟨hs.hc,hu' hs.hu⟩ hx
  |taken hg ho hv' hn' hd T hTs hT hm hc hx=>
   refine .taken hg ho hv' hn' hd T (by show T≤s.turn+1;omega) (fun g hg ht hl=>?_) (fun g hg ht h1 h2=>?_) hc hx
   ·rcases ack g hg with q|q
    ·exact hT g q ht hl
    ·rw[q.2.2.2.2.2];exact hk0
   ·rcases ack g hg with q|q
    ·exact hm g q ht h1 h2
    ·exact⟨by rw[q.2.2.2.2.1,q.2.1];rfl,by omega⟩
 |take t hr hk hn ha hi h1 h2 h3=>
  cases h with
  |fresh hg ho hd hh hn' hc hu=>exact(hd f hf).elim
  |closed hg ho hv' hn' hd hs=>have:=hd f hf;omega
  |taken hg ho hv' hn' hd T hTs hT hm hc hx=>have:=hd f hf;omega
  |sent hg ho hv' hn' hd hs' hx=>
   have e:f=v.v.push:=(hd f hf).elim id fun q=>by omega
   obtain⟨w1,w2,w3,w4,w5,w6,w7⟩:=qao hv ho;have vt:=c.vt;have inn:∀j,Nonce.kindB j=true→t.inn.last j=v.out.last j∧s.inn.last j≤t.inn.last j:=fun j hj=>by
    rw[hi,qox _ _ hk hj];have:=hn' j hj;split
    ·rename_i q;subst q;rw[e,w6];exact⟨rfl,by rw[e]at hn;omega⟩
    ·rename_i q;rw[e]at q;rw[if_neg q]at this;exact⟨this,Int.le_refl _⟩
   have si:SideI p t:=c.si.apply hs ha (zgk hr) (by rw[e];exact c.ad ho) (by rw[e];exact fun q k hk=>(hx q k hk).2.1);have ts:zfc t.p=true:=(saneX_iff.1 ss).p;have hk0:=HKin.of ts;have ack:∀g∈U',g∈U∨(g.type=2∧g.kind=f.kind∧g.nonce=f.nonce∧g.turn=s.turn+1∧g.err=t.errs.get f.kind∧g.held=zcw t.p):=fun g hg=>(hU g hg).elim .inl fun q=>.inr (by
    rw[List.mem_singleton.1 q,←h2];exact⟨rfl,rfl,rfl,rfl,rfl,rfl⟩)
   refine⟨⟨⟨si.inn,si.sn,si.whole,si.keep⟩,c.os,fun g hg ht=>?_,?_,fun g hg ht=>?_,c.dk,c.ad,c.rs⟩,.taken hg ho ?_ (fun j hj=>(inn j hj).1) (fun g hg=>?_) (s.turn+1) ?_ (fun g hg ht hl=>?_) (fun g hg ht k1 k2=>?_) (fun q=>?_) (fun q k hk hh=>?_)⟩
   ·show g.turn≤t.turn+1;rcases ack g hg with q|q
    ·have:=c.ut g q ht;omega
    ·omega
   ·show v.v.turn≤t.turn+1;omega
   ·show _∧g.nonce≤t.inn.last _;rcases ack g hg with q|q
    ·have a:=c.ak g q ht;have:=(inn _ a.1).2;exact⟨a.1,by omega⟩
    ·rw[q.2.1,q.2.2.1];refine⟨hk,?_⟩;rw[hi,qox _ _ hk hk,if_pos rfl];exact Int.le_refl _
   ·show t.w.c.l=if t.errs.get _=0 then _ else _
    rw[←e,hv'];rcases ha with⟨q,h0,he,hw,hp⟩|⟨he,hm,hc,hs,hp⟩
    ·rw[he,if_neg h0,hw]
    ·rw[he,if_pos rfl,hc]
   ·show g.nonce≤t.inn.last _;rcases hd g hg with q|q
    ·rw[q,(inn _ w7).1,w6];exact Int.le_refl _
    ·have:=(inn _ (c.dk g hg)).2;omega
   ·show s.turn+1≤t.turn+1;omega
   ·rcases ack g hg with q|q
    ·have:=c.ut g q ht;omega
    ·rw[q.2.2.2.2.2];exact hk0
   ·rcases ack g hg with q|q
    ·have a:=c.ak g q ht;rw[k1,hn' _ w7,if_pos rfl,k2,w6]at a;have:=a.2;omega
    ·exact⟨by rw[q.2.2.2.2.1,q.2.1];rfl,by omega⟩
   ·omega
   ·obtain⟨x1,x2,x3⟩:=hx q k hk;rcases zn0 ha hh with r|⟨r,hr,r2,_⟩
    ·exact x2 r
    ·have hc:=(saneW_iff.1 S.w).1;have asc:AscR s.w.c.l:=zcc (saneC_iff.1 hc).2.1;have:=zbz (zm4 asc f.adds f.gone) (List.mem_filter.1 hr).1;rw[r2,e,x3,zh0]at this;simp only[zqg,List.reverse_nil,List.find?_nil,hk,if_true]at this;cases this
theorem qme {hv want:List Res}{held:List Key}{x:Step}(h:zlh hv want held=.some x):x.kind=0∨x.gone=[]∨x.adds=[]:=by
 have hm:=List.mem_of_find?_eq_some h;simp only[Job.steps,List.mem_cons,List.not_mem_nil,or_false]at hm;rcases hm with hm|hm|hm|hm|hm|hm|hm|hm|hm|hm<;>subst hm
 ·exact .inr (.inl rfl)
 ·exact .inr (.inl rfl)
 ·exact .inr (.inl rfl)
 ·exact .inl rfl
 ·exact .inr (.inl rfl)
 ·exact .inr (.inl rfl)
 ·exact .inr (.inl rfl)
 ·exact .inr (.inr rfl)
 ·exact .inr (.inr rfl)
 ·exact .inr (.inr rfl)
theorem zsl (v:View)(t:Int)(h:List Key):(zai v t h).have_=v.have_∧(zai v t h).push=v.push∧(zai v t h).open_=v.open_:=by
 unfold zai;split<;>exact⟨rfl,rfl,rfl⟩
inductive HOut (v:Sess)(p:Store)(f:Frame):Sess→Prop
 |none:HOut v p f v
 |hello (ht:f.type=0) (hg:v.greeted=false):HOut v p f {v with greeted:=true,v:=zj3 p v.v f.have_}
 |ack (ht:f.type=2) (hd:(Nonce.done v.out f.kind f.nonce).2=0) (ho:v.v.open_=true) (hf:fitF v.v f=true):HOut v p f ⟨v.epoch,v.greeted,(Nonce.done v.out f.kind f.nonce).1,zai ⟨if f.err=0 then zak v.v.have_ v.v.push.adds v.v.push.gone else v.v.have_,v.v.held,v.v.turn,zFrame,false⟩ f.turn f.held,f.err,nowI p⟩
 |drain (ht:f.type=3):HOut v p f {v with v:=zai v.v f.turn f.held}
theorem qi8 {v:Sess}(hv:zbr v=true)(p:Store)(f:Frame):HOut v p f (handle v p f).1:=by
 unfold handle;rw[zbx hv];unfold zcj;split
 ·exact .none
 rename_i hf;have hf:=Decidable.not_not.1 hf;split
 ·exact .none
 split
 ·rename_i ht;unfold zf7;split
  ·exact .none
  ·rename_i hq;exact .hello ht (by simpa using hq)
 split
 ·exact .none
 split
 ·rename_i ht;unfold ackH;split
  ·exact .none
  split
  ·exact .none
  split
  ·exact .none
  split
  ·exact .none
  ·rename_i h1 h2 h3 _;have ho:v.v.open_=true:=by simpa using h2
   have hk:fitF v.v f=true:=by
    cases hq:fitF v.v f
    ·rw[ansV,if_neg (by simp[ho]),if_pos hq,ho]at h3;exact absurd rfl h3
    ·rfl
   rw[zqv ho hk];exact .ack ht (Decidable.not_not.1 h1) ho hk
 ·rename_i h0 h1 h2;have:=zv9 hf;exact .drain (by omega)
theorem NI.sess {p:Store}{s:Side}{v:Sess}{U D:List Frame}(h:NI p s v U D)(hp:sanS p=true)(hs:za0 s=true)(hv:zbr v=true){f:Frame}(hf:f∈U):NI p s (handle v p f).1 U D:=by
 have os:=(h.com.os.handle p f hv).1;have o:=qi8 hv p f;generalize(handle v p f).1=R at o os;obtain⟨c,h⟩:=h;have hc':=(saneW_iff.1 (saneX_iff.1 hs).w).1;have asc:AscR s.w.c.l:=zcc (saneC_iff.1 hc').2.1;cases o with
 |none=>exact⟨c,h⟩
 |hello ht hg=>
  cases h with
  |closed hg'=>rw[hg]at hg';cases hg'
  |sent hg'=>rw[hg]at hg';cases hg'
  |taken hg'=>rw[hg]at hg';cases hg'
  |fresh hg' ho hd hh hn hc hu=>
   have e:zd6 p f.have_=s.w.c.l:=by rw[hh f hf ht];exact zzu hp asc c.si.inn
   refine⟨⟨c.si,os,c.ut,c.vt,c.ak,c.dk,fun q=>?_,fun q=>?_⟩,.closed rfl ho e hn (fun g hg=>(hd g hg).elim) ⟨?_,hu⟩⟩
   ·exact absurd (ho.symm.trans q) (by decide)
   ·exact absurd (ho.symm.trans q) (by decide)
   ·show HKin s.p (if v.v.turn=0 then(zd6 p f.have_).map Res.key else v.v.held);split
    ·rw[e];intro k hk hh;obtain⟨r,hr⟩:=Option.isSome_iff_exists.1 (c.si.keep k hk hh);exact List.mem_map.2 ⟨r,zce hr,zfs hr⟩
    ·rename_i h0;exact hc.resolve_left h0
 |drain ht=>
  have dc:=zh3 v.v f.turn f.held;have dk:=zsl v.v f.turn f.held;have tf:isT f:=.inr ht;have cm:Com p s {v with v:=zai v.v f.turn f.held} U D:=by
   refine⟨c.si,os,c.ut,?_,c.ak,c.dk,?_,?_⟩
   ·show(zai v.v f.turn f.held).turn≤_;rw[dc.2];have:=c.vt;have:=c.ut f hf tf;split<;>omega
   ·show(zai v.v f.turn f.held).open_=true→∀r∈(zai v.v f.turn f.held).push.adds,_;rw[dk.2.1,dk.2.2];exact c.ad
   ·show(zai v.v f.turn f.held).open_=true→∀r,r∈(zai v.v f.turn f.held).have_∨r∈(zai v.v f.turn f.held).push.adds→∀x∈(zai v.v f.turn f.held).push.adds,_;rw[dk.1,dk.2.1,dk.2.2];exact c.rs
  have hu':(∀g∈U,isT g→v.v.turn<g.turn→HKin s.p g.held)→∀g∈U,isT g→(zai v.v f.turn f.held).turn<g.turn→HKin s.p g.held:=fun hu g hg ht hl=>by
   rw[dc.2]at hl;exact hu g hg ht (by split at hl<;>omega)
  have hc'':(∀g∈U,isT g→v.v.turn<g.turn→HKin s.p g.held)→HKin s.p v.v.held→HKin s.p (zai v.v f.turn f.held).held:=fun hu hc=>by
   rw[dc.1];split
   ·exact hu f hf tf ‹_›
   ·exact hc
  refine⟨cm,?_⟩;cases h with
  |fresh hg ho hd hh hn hc hu=>
   refine .fresh hg (dk.2.2.trans ho) hd hh hn ?_ (hu' hu);show(zai v.v f.turn f.held).turn=0∨HKin s.p (zai v.v f.turn f.held).held;by_cases hl:v.v.turn<f.turn
   ·right;rw[dc.1,if_pos hl];exact hu f hf tf hl
   ·rw[dc.1,dc.2,if_neg hl,if_neg hl];exact hc
  |closed hg ho hv hn hd hs=>exact .closed hg (dk.2.2.trans ho) (dk.1.trans hv) hn hd ⟨hc'' hs.hu hs.hc,hu' hs.hu⟩
  |sent hg ho hv hn hd hs hx=>
   refine .sent hg (dk.2.2.trans ho) (dk.1.trans hv) ?_ ?_ ⟨hc'' hs.hu hs.hc,hu' hs.hu⟩ ?_
   ·show∀k,Nonce.kindB k=true→s.inn.last k=if k=(zai v.v f.turn f.held).push.kind then _ else _
    rw[dk.2.1];exact hn
   ·show∀g∈D,g=(zai v.v f.turn f.held).push∨_;rw[dk.2.1];exact hd
   ·show(zai v.v f.turn f.held).push.kind≠0→∀k∈(zai v.v f.turn f.held).push.gone,k.kind=(zai v.v f.turn f.held).push.kind∧_∧(zai v.v f.turn f.held).push.adds=[];rw[dk.2.1];exact hx
  |taken hg ho hv hn hd T hTs hT hm hc hx=>
   refine .taken hg (dk.2.2.trans ho) ?_ hn hd T hTs hT ?_ ?_ ?_
   ·show s.w.c.l=if s.errs.get (zai v.v f.turn f.held).push.kind=0 then zak (zai v.v f.turn f.held).have_ (zai v.v f.turn f.held).push.adds (zai v.v f.turn f.held).push.gone else(zai v.v f.turn f.held).have_
    rw[dk.1,dk.2.1];exact hv
   ·show∀g∈U,g.type=2→g.kind=(zai v.v f.turn f.held).push.kind→g.nonce=(zai v.v f.turn f.held).push.nonce→_;rw[dk.2.1];exact hm
   ·show T≤(zai v.v f.turn f.held).turn→HKin s.p (zai v.v f.turn f.held).held;rw[dc.1,dc.2];split
    ·exact hT f hf tf
    ·exact hc
   ·show(zai v.v f.turn f.held).push.kind≠0→∀k∈(zai v.v f.turn f.held).push.gone,_;rw[dk.2.1];exact hx
 |ack ht hd' ho' hfit=>
  obtain⟨q1,q2,q3,q4⟩:=qjv (saneS_iff.1 hv).out hd';simp only[fitF,Bool.and_eq_true,decide_eq_true_eq]at hfit;obtain⟨⟨⟨_,_⟩,k1⟩,k2⟩:=hfit;have tf:isT f:=.inl ht;cases h with
  |fresh hg ho=>rw[ho']at ho;cases ho
  |closed hg ho=>rw[ho']at ho;cases ho
  |sent hg ho hv' hn hd hs hx=>
   have a:=c.ak f hf ht;have b:=hn _ a.1;rw[if_pos k1]at b;omega
  |taken hg ho hv' hn hd T hTs hT hm hc hx=>
   obtain⟨m1,m2⟩:=hm f hf ht k1 k2;generalize hw:(⟨if f.err=0 then zak v.v.have_ v.v.push.adds v.v.push.gone else v.v.have_,v.v.held,v.v.turn,zFrame,false⟩:View)=w at os⊢;have dc:=zh3 w f.turn f.held;have dk:=zsl w f.turn f.held;have w1:w.turn=v.v.turn:=by rw[←hw]
   have w2:w.held=v.v.held:=by rw[←hw]
   have w3:w.open_=false:=by rw[←hw]
   have w4:w.have_=s.w.c.l:=by rw[←hw];show(if _ then _ else _)=_;rw[m1,k1,←hv']
   have no:(zai w f.turn f.held).open_=false:=dk.2.2.trans w3;refine⟨⟨c.si,os,c.ut,?_,c.ak,c.dk,fun q=>absurd (no.symm.trans q) (by decide),fun q=>absurd (no.symm.trans q) (by decide)⟩,.closed hg no (dk.1.trans w4) (fun k hk=>?_) hd ⟨?_,fun g hg ht hl=>?_⟩⟩
   ·show(zai w f.turn f.held).turn≤_;rw[dc.2,w1];have:=c.vt;have:=c.ut f hf tf;split<;>omega
   ·show _=Nonce.Ou.last (Nonce.done v.out f.kind f.nonce).1 k;rw[q4,(Nonce.set_open _ _ _ q1 hk).2.1,hn k hk];split
    ·rename_i e;rw[e]
    ·rfl
   ·show HKin s.p (zai w f.turn f.held).held;rw[dc.1,w1,w2];split
    ·exact hT f hf tf m2
    ·exact hc (by omega)
   ·have hl:(zai w f.turn f.held).turn<g.turn:=hl;rw[dc.2,w1]at hl;exact hT g hg ht (by split at hl<;>omega)
theorem qh1 {p:Store}(hp:sanS p=true){r x:Res}(hr:InP p r)(hx:x∈nowL p)(hk:x.key=r.key):r.ver≤x.ver:=by
 obtain⟨hc,hlen,hh⟩:=(zcd p).1 hp;obtain⟨l,hl,hr⟩:=hr;obtain⟨j,hj⟩:=List.mem_iff_getElem?.1 hl;have h0:0<p.hist.length:=ztk hp;have key:∀(i:Nat) (m:List Res),p.hist[i]? =some m→∀(j:Nat) (l:List Res),j≤i→p.hist[j]? =some l→∀r∈l,∀x∈m,x.key=r.key→r.ver≤x.ver:=by
  intro i;induction i with
  |zero=>
   intro m hm j l hji hl r hr x hx _;rw[hh.first]at hm;cases hm;cases hx
  |succ i ih=>
   intro m hm j l hji hl r hr x hx hk;by_cases e:j=i+1
   ·subst e;rw[hm]at hl;cases hl;have a:=hh.asc hm;have q1:=zbz a hr;rw[←hk,zbz a hx]at q1;cases q1;exact Int.le_refl _
   ·have hi:i<p.hist.length:=by have:=(List.getElem?_eq_some_iff.1 hm).1;omega
    have e0:p.hist[i]? =some p.hist[i]:=List.getElem?_eq_getElem hi;obtain⟨⟨P,rfl⟩,_⟩:=hh.step i _ m e0 hm;obtain⟨y,hy,rfl⟩:=List.mem_map.1 hx;obtain⟨a,b,d,v1,v2,_⟩:=(hh.ver j l hl r hr).is;show r.ver≤(match getR p.hist[i] y.key with|some o=>if za9 o y then o.ver else(i:Int)+1|none=>(i:Int)+1);split
    ·rename_i o ho;split
     ·exact ih _ e0 j l (by omega) hl r hr o (zce ho) ((zfs ho).trans hk)
     ·exact(show r.ver≤(i:Int)+1 by omega)
    ·exact(show r.ver≤(i:Int)+1 by omega)
 have hn:p.hist[p.hist.length-1]? =some (nowL p):=by
  unfold nowL;rw[zde hp];exact zqf h0
 have hjl:=(List.getElem?_eq_some_iff.1 hj).1;exact key _ _ hn j l (by omega) hj r hr x hx hk
theorem qow {p:Store}(hp:sanS p=true){k:Key}{r:Res}(h:getR (nowL p) k=some r):InP p r:=by
 unfold nowL at h;rw[zde hp]at h;rcases qbz (s:=p)with e|e
 ·rw[e]at h;cases h
 ·exact⟨_,e,zce h⟩
theorem NI.pump {p:Store}{s:Side}{v:Sess}{U D D':List Frame}(h:NI p s v U D)(hp:sanS p=true)(hs:za0 s=true)(hv:zbr v=true)(hD:∀g∈D',g∈D∨g∈(Go.G.pump v p).2.1):NI p s (Go.G.pump v p).1 U D':=by
 have hg:=(saneS_iff.1 hv).out;have ok:=Nonce.outF_ok v.out;rw[zmv hg]at ok;have os:=(h.com.os.pump hv hp (B:=2147483647) (fun k hk=>by
  obtain⟨a0,a1,b0,b1,c0,c1,d0,d1,m0,m1⟩:=ok;rcases Nonce.kindB_is hk with rfl|rfl|rfl|rfl<;>simp only[Nonce.Ou.last]<;>simp<;>omega)).1
 rcases zjg hv p with⟨e1,e2⟩|⟨x,c1,c2,c3,c4,c5⟩
 ·rw[e1];exact h.mono (fun g hg=>hg) (fun g hg=>(hD g hg).elim id fun q=>by rw[e2]at q;cases q)
 ·obtain⟨q1,q2,q3,q4⟩:=ztp hg c4;have so:=zti hv hp c1 c3 c4;have sk:=zzg c1;have n1:=qme c1;rw[c5]at hD os⊢;simp only at hD os⊢;generalize hF:zfn v x (Nonce.push v.out x.kind).2.1=F at so hD os⊢;have fk:F.kind=x.kind:=by rw[←hF];rfl
  have fa:F.adds=x.adds:=by rw[←hF];rfl
  have fg:F.gone=x.gone:=by rw[←hF];rfl
  have fn:F.nonce=v.out.last x.kind+1:=by rw[←hF,q4];rfl
  obtain⟨c,h⟩:=h;cases h with
  |fresh hg=>rw[c3]at hg;cases hg
  |sent hg ho=>rw[c2]at ho;cases ho
  |taken hg ho=>rw[c2]at ho;cases ho
  |closed hg ho hv' hn hd hs=>
   have fr:=so.adds;refine⟨⟨c.si,os,c.ut,c.vt,c.ak,fun g hg=>?_,fun _ r hr=>qow hp (fr r hr),fun _ r hr y hy hk=>?_⟩,.sent c3 rfl hv' (fun k hk=>?_) (fun g hg=>?_) ⟨hs.hc,hs.hu⟩ (fun hk k hk2=>?_)⟩
   ·rcases hD g hg with q|q
    ·exact c.dk g q
    ·rw[List.mem_singleton.1 q,fk];exact q1
   ·have hr':r∈v.v.have_∨r∈F.adds:=hr;rw[hv']at hr';exact qh1 hp (hr'.elim (c.si.inn r) fun q=>qow hp (fr r q)) (zce (fr y hy)) hk
   ·show s.inn.last k=if k=F.kind then Nonce.Ou.last (Nonce.push v.out x.kind).1 k-1 else Nonce.Ou.last (Nonce.push v.out x.kind).1 k
    rw[q4,(Nonce.set_open _ _ _ q1 hk).2.1,hn k hk,fk];split
    ·rename_i e;subst e;omega
    ·rfl
   ·rcases hD g hg with q|q
    ·exact .inr (hd g q)
    ·exact .inl (List.mem_singleton.1 q)
   ·have hk2:k∈F.gone:=hk2;have hk:F.kind≠0:=hk;rw[fg]at hk2;rw[fk]at hk;have a:=sk.gone k hk2;refine⟨a.2.trans fk.symm,fun hh=>?_,?_⟩
    ·exact(sk.free hk k hk2).1 (hs.hc k (by rw[a.2];exact hk) hh)
    ·show F.adds=[];rw[fa];rcases n1 with n1|n1|n1
     ·exact absurd n1 hk
     ·rw[n1]at hk2;cases hk2
     ·exact n1
structure GoesTo (s t:Side)(told:List Frame):Prop where
 sane:za0 t=true
 w:t.w=s.w
 i:t.inn=s.inn
 e:t.errs=s.errs
 ep:t.epoch=s.epoch
 le:s.turn≤t.turn
 p:∀q∈t.p.snaps,∃r∈s.p.snaps,q.l=r.l
 told:∀g∈told,g.type=3∧g.turn≤t.turn∧s.turn<g.turn∧g.held=zcw t.p
theorem GoesTo.refl {s:Side}(hs:za0 s=true):GoesTo s s []:=⟨hs,rfl,rfl,rfl,rfl,Int.le_refl _,fun q hq=>⟨q,hq,rfl⟩,fun g hg=>(by cases hg)⟩
theorem qrj {p:Pins}(h:zfc p=true):∀q∈(pinP p).1.snaps,∃r∈p.snaps,q.l=r.l:=by
 unfold pinP;rw[zc8 h];unfold pinQ;split
 ·exact fun q hq=>⟨q,hq,rfl⟩
 ·rename_i s hl;split
  ·exact fun q hq=>⟨q,hq,rfl⟩
  ·intro q hq;rcases List.mem_append.1 hq with g|g
   ·exact⟨q,List.dropLast_subset _ g,rfl⟩
   ·rw[List.mem_singleton.1 g];exact⟨s,List.mem_of_getLast? hl,rfl⟩
theorem qq9 {p:Pins}(h:zfc p=true)(id:Int):∀q∈(relP p id).1.snaps,∃r∈p.snaps,q.l=r.l:=by
 unfold relP;rw[zc8 h];unfold relQ;split
 ·exact fun q hq=>⟨q,hq,rfl⟩
 split
 ·exact fun q hq=>⟨q,hq,rfl⟩
 ·rename_i s hs;have hm:=List.mem_of_getElem? hs;split
  ·exact fun q hq=>⟨q,hq,rfl⟩
  split
  ·exact fun q hq=>⟨q,List.mem_of_mem_eraseIdx hq,rfl⟩
  ·intro q hq;rcases List.mem_or_eq_of_mem_set hq with g|g
   ·exact⟨q,g,rfl⟩
   ·rw[g];exact⟨s,hm,rfl⟩
theorem GoesTo.begin {s:Side}(hs:za0 s=true):GoesTo s (ze9 s).1 []:=by
 unfold ze9;rw[zbh hs];exact⟨zwh hs,rfl,rfl,rfl,rfl,Int.le_refl _,qrj (saneX_iff.1 hs).p,fun g hg=>(by cases hg)⟩
theorem GoesTo.end {s:Side}(hs:za0 s=true)(id:Int):GoesTo s (endX s id).1 (endX s id).2.1:=by
 have k:=zxv hs id;unfold endX at k⊢;rw[zbh hs]at k⊢;have sub:=qq9 (saneX_iff.1 hs).p id;unfold endQ at k⊢;dsimp only at k⊢;split at k
 ·rename_i h;rw[if_pos h];exact⟨k,rfl,rfl,rfl,rfl,Int.le_refl _,sub,fun g hg=>(by cases hg)⟩
 ·rename_i h;rw[if_neg h];refine⟨k,rfl,rfl,rfl,rfl,by show s.turn≤s.turn+1;omega,sub,fun g hg=>?_⟩;rw[List.mem_singleton.1 hg];exact⟨rfl,Int.le_refl _,by show s.turn<s.turn+1;omega,rfl⟩
theorem GoesTo.stepR {s:Side}(hs:za0 s=true)(r:Req):GoesTo s (zeb r s).s (zeb r s).told:=by
 have done:∀(r:Req) (a:Ans),GoesTo s (zfh ⟨r,s,[]⟩ a).s (zfh ⟨r,s,[]⟩ a).told:=fun r a=>by
  unfold zfh;split
  ·exact .refl hs
  ·exact .end hs _
 unfold zeb;rw[zbh hs];generalize zec r=r;unfold stepQ zid zfe zk4 zh6;dsimp only
 repeat' split
 all_goals first
  |exact done _ _
  |exact .refl hs
  |exact .begin hs
theorem GoesTo.pick {s:Side}(hs:za0 s=true)(p:Pool)(draw:Int):GoesTo s (zei p s draw).2.1 (zei p s draw).2.2.1:=by
 unfold zei;split
 ·exact .refl hs
 ·dsimp only;split
  ·exact .stepR hs _
  ·exact .stepR hs _
theorem zov {p q:Pins}(h:∀x∈q.snaps,∃r∈p.snaps,x.l=r.l){k:Key}(hk:zqx q k):zqx p k:=by
 obtain⟨x,h1,r,h2,h3⟩:=hk;obtain⟨y,h4,h5⟩:=h x h1;exact⟨y,h4,r,h5▸h2,h3⟩
theorem HKin.sub {p q:Pins}(h:∀x∈q.snaps,∃r∈p.snaps,x.l=r.l){l:List Key}(hk:HKin p l):HKin q l:=fun k h0 hh=>hk k h0 (zov h hh)
theorem NI.goes {p:Store}{s t:Side}{v:Sess}{U D U' told:List Frame}(h:NI p s v U D)(g:GoesTo s t told)(hU:∀x∈U',x∈U∨x∈told):NI p t v U' D:=by
 obtain⟨c,h⟩:=h;have hk0:=HKin.of (saneX_iff.1 g.sane).p;have gl:=g.le;have up:∀x∈U',x∈U∨(x.type=3∧x.turn≤t.turn∧s.turn<x.turn∧HKin t.p x.held):=fun x hx=>(hU x hx).imp id fun q=>by
  obtain⟨a,b,d,e⟩:=g.told x q;exact⟨a,b,d,by rw[e];exact hk0⟩
 have hu':(∀x∈U,isT x→v.v.turn<x.turn→HKin s.p x.held)→∀x∈U',isT x→v.v.turn<x.turn→HKin t.p x.held:=fun hu x hx ht hl=>by
  rcases up x hx with q|q
  ·exact(hu x q ht hl).sub g.p
  ·exact q.2.2.2
 have cm:Com p t v U' D:=by
  refine⟨⟨by rw[g.w];exact c.si.inn,fun q hq r hr=>?_,fun q hq=>?_,fun k hk hh=>?_⟩,c.os,fun x hx ht=>?_,by have:=c.vt;omega,fun x hx ht=>?_,c.dk,c.ad,c.rs⟩
  ·obtain⟨y,h1,h2⟩:=g.p q hq;rw[h2]at hr;exact c.si.sn y h1 r hr
  ·obtain⟨y,h1,h2⟩:=g.p q hq;rw[h2];exact c.si.whole y h1
  ·rw[g.w];exact c.si.keep k hk (zov g.p hh)
  ·rcases up x hx with q|q
   ·have:=c.ut x q ht;omega
   ·exact q.2.1
  ·rcases up x hx with q|q
   ·rw[g.i];exact c.ak x q ht
   ·have:=q.1;omega
 refine⟨cm,?_⟩;cases h with
 |fresh hg ho hd hh hn hc hu=>
  refine .fresh hg ho hd (fun x hx ht=>?_) (by rw[g.i];exact hn) (hc.imp id (HKin.sub g.p)) (hu' hu);rcases up x hx with q|q
  ·rw[g.w];exact hh x q ht
  ·have:=q.1;omega
 |closed hg ho hv hn hd hs=>exact .closed hg ho (by rw[g.w];exact hv) (by rw[g.i];exact hn) (by rw[g.i];exact hd) ⟨hs.hc.sub g.p,hu' hs.hu⟩
 |sent hg ho hv hn hd hs hx=>exact .sent hg ho (by rw[g.w];exact hv) (by rw[g.i];exact hn) (by rw[g.i];exact hd) ⟨hs.hc.sub g.p,hu' hs.hu⟩ (fun q k hk=>⟨(hx q k hk).1,fun hh=>(hx q k hk).2.1 (zov g.p hh),(hx q k hk).2.2⟩)
 |taken hg ho hv hn hd T hTs hT hm hc hx=>
  refine .taken hg ho (by rw[g.w,g.e];exact hv) (by rw[g.i];exact hn) (by rw[g.i];exact hd) T (by omega) (fun x hx ht hl=>?_) (fun x hx ht h1 h2=>?_) (fun q=>(hc q).sub g.p) (fun q k hk hh=>hx q k hk (zov g.p hh))
  ·rcases up x hx with q|q
   ·exact(hT x q ht hl).sub g.p
   ·exact q.2.2.2
  ·rcases up x hx with q|q
   ·rw[g.e];exact hm x q ht h1 h2
   ·have:=q.1;omega
theorem NI.renew {p:Store}{s:Side}{v:Sess}{U D U':List Frame}(h:NI p s v U D)(hs:za0 s=true){ep:Int}(he:s.epoch<ep)(he2:ep≤2147483647)(hf:zks s=false)(mx:Int)(hU:∀x∈U',x∈(zao s ep).2.1):NI p (zao s ep).1 (zcs ep mx) U' []:=by
 have ks:=znw s ep;unfold zao at hU ks⊢;rw[zbh hs]at hU ks⊢;unfold zcf at hU ks⊢;rw[if_neg (by omega),if_neg (by simp[hf])]at hU ks⊢;dsimp only at hU ks⊢;have c:=h.com;have S:=saneX_iff.1 hs;have t0:=rngB_iff.1 S.turn;generalize ht:zhs {s with epoch:=ep,up:=true,inn:=Nonce.startI s.inn.m,errs:=⟨0,0,0,0⟩}=t at hU ks⊢;have tw:t.w=s.w:=by rw[←ht];rfl
 have tp:t.p=s.p:=by rw[←ht];rfl
 have tt:t.turn=s.turn+1:=by rw[←ht];rfl
 have ti:t.inn=Nonce.startI s.inn.m:=by rw[←ht];rfl
 have up:∀x∈U',(x.type=0∧x.have_=ze0 t.w.c.l)∨(x.type=3∧x.turn=t.turn∧x.held=zcw t.p):=fun x hx=>by
  have:=hU x hx;simp only[List.mem_cons,List.not_mem_nil,or_false]at this;rcases this with rfl|rfl
  ·exact .inl ⟨rfl,rfl⟩
  ·exact .inr ⟨rfl,rfl,rfl⟩
 have hk0:=HKin.of (saneX_iff.1 ks).p;refine⟨⟨⟨by rw[tw];exact c.si.inn,by rw[tp];exact c.si.sn,by rw[tp];exact c.si.whole,by rw[tp,tw];exact c.si.keep⟩,.new _ _,fun x hx hT=>?_,?_,fun x hx hT=>?_,fun x hx=>(by cases hx),fun q=>(by cases q),fun q=>(by cases q)⟩,.fresh rfl rfl (fun x hx=>(by cases hx)) (fun x hx h0=>?_) (fun k hk=>?_) (.inl rfl) (fun x hx hT _=>?_)⟩
 ·rcases up x hx with q|q
  ·rcases hT with g|g<;>omega
  ·omega
 ·show(0:Int)≤t.turn;omega
 ·rcases up x hx with q|q<;>omega
 ·rcases up x hx with q|q
  ·exact q.2
  ·omega
 ·rw[ti];rcases Nonce.kindB_is hk with rfl|rfl|rfl|rfl<;>rfl
 ·rcases up x hx with q|q
  ·rcases hT with g|g<;>omega
  ·rw[q.2.2];exact hk0
def NodI (p:Store)(n:Node):Prop:=NI p n.side n.sess n.up.q n.dn.q
theorem zir (l:FLk)(lost:Int)(fs:List Frame):∀g∈(za1 l lost fs).1.q,g∈l.q∨g∈fs:=(zf2 (P:=fun g=>g∈l.q∨g∈fs) lost (fun g hg=>.inl hg) (fun g hg=>.inr hg)).1
theorem NodI.new (c:Cfg)(p:Store):NodI p (zag c):=by
 refine⟨⟨⟨fun r hr=>(by cases hr),fun q hq=>(by cases hq),fun q hq=>(by cases hq),fun k _ hh=>?_⟩,.new _ _,fun f hf=>(by cases hf),Int.le_refl 0,fun f hf=>(by cases hf),fun f hf=>(by cases hf),fun q=>(by cases q),fun q=>(by cases q)⟩,.fresh rfl rfl (fun f hf=>(by cases hf)) (fun f hf=>(by cases hf)) (fun k hk=>?_) (.inl rfl) (fun f hf=>(by cases hf))⟩
 ·obtain⟨q,hq,_⟩:=hh;cases hq
 ·rcases Nonce.kindB_is hk with rfl|rfl|rfl|rfl<;>rfl
theorem NodI.renew {p:Store}{n:Node}(h:NodI p n){B:Int}(sd:SdN n B)(ho:OkN n)(hB:B≤1000000)(mx lost:Int):NodI p (za6 mx lost n).1:=by
 have e0:=ho.up.e0;have eB:=sd.eB;have tB:=sd.tB;have ud:=sd.ud;have xe:=sd.xe;unfold za6;rw[if_neg (by omega)];exact NI.renew h sd.xs (by omega) (by omega) (by simp only[zks,decide_eq_false_iff_not];omega) mx (fun x hx=>(zir _ _ _ x hx).elim (fun q=>(by cases q)) id)
theorem NodI.pump {p:Store}{n:Node}(h:NodI p n){B:Int}(sd:SdN n B)(ho:OkN n)(hB:B≤1000000)(hp:sanS p=true)(mx lost:Int):NodI p (zc9 mx p lost n).1:=by
 have q:=NI.pump h hp sd.xs ho.ss (D':=(za1 n.dn lost (Go.G.pump n.sess p).2.1).1.q) (zir _ _ _);have o:=zop ho.ss ho.so hp;have dn:=qhd n.sess p;rw[zbx ho.ss,sd.se]at dn;have d:=zf2 (P:=fun g=>g.type=1∧g.epoch=n.up.epoch) (l:=n.dn) lost (fs:=(Go.G.pump n.sess p).2.1) sd.dn dn.1;have m:SdN {n with sess:=(Go.G.pump n.sess p).1,dn:=(za1 n.dn lost (Go.G.pump n.sess p).2.1).1} B:=⟨sd.up,d.1,by show(za1 _ _ _).1.epoch=_;rw[d.2];exact sd.ud,dn.2,sd.xs,sd.xe,sd.eB,sd.tB⟩;have ok:OkN {n with sess:=(Go.G.pump n.sess p).1,dn:=(za1 n.dn lost (Go.G.pump n.sess p).2.1).1}:=⟨ho.d,o.1,o.2.1,ho.up,ho.dn.send _ _,ho.pl⟩;unfold zc9;dsimp only;split
 ·exact q
 ·exact NodI.renew (n:={n with sess:=(Go.G.pump n.sess p).1,dn:=(za1 n.dn lost (Go.G.pump n.sess p).2.1).1}) q m ok hB mx _
theorem NodI.set {p:Store}{n:Node}(h:NodI p n)(w:Int){l:FLk}(hl:∀g∈l.q,g∈(wayN n w).q):NodI p (setW n w l):=by
 unfold wayN at hl;unfold setW;by_cases hw:w=0
 ·rw[if_pos hw]at hl⊢;exact NI.mono h hl (fun g hg=>hg)
 ·rw[if_neg hw]at hl⊢;exact NI.mono h (fun g hg=>hg) hl
theorem zpm (n:Node)(w:Int)(l:FLk):(setW n w l).side=n.side∧(setW n w l).sess=n.sess∧(setW n w l).pool=n.pool∧(w=0→(setW n w l).dn=n.dn)∧(w≠0→(setW n w l).up=n.up∧(setW n w l).dn=l):=by
 unfold setW;split
 ·exact⟨rfl,rfl,rfl,fun _=>rfl,fun q=>absurd ‹_› q⟩
 ·exact⟨rfl,rfl,rfl,fun q=>absurd q ‹_›,fun _=>⟨rfl,rfl⟩⟩
theorem NodI.single {p:Store}{n:Node}(h:NodI p n){B:Int}(sd:SdN n B)(ho:OkN n)(hB:B≤1000000)(hp:sanS p=true)(mx lost:Int)(s:MStep)(hw:s.kind≤4→s.way=0∨s.way=1):NodI p (za7 mx p lost n s).1:=by
 have hx:∀f,(f=zoe∨f=zgu∨f=zls)→NodI p (ze3 f lost n s).1:=fun f hf=>h.set _ (qb7 (l:=wayN n s.way) (i:=s.n) hf).1;unfold za7;split
 ·rename_i h1;have t:=zoi (wayN n s.way) s.n;have om:=ho.set s.way ((ho.way s.way).take s.n).1;have m:=sd.set t.1 t.2.1;have k:=h.set s.way t.1;have so:=zpm n s.way (zaw (wayN n s.way) s.n).1;unfold zck;dsimp only;split
  ·exact k
  rename_i h2;have hq:(wayN n s.way).q≠[]:=zs5 (Decidable.not_not.1 h2);have hm:=t.2.2 hq;split
  ·rename_i hway;have q:=NI.side (U':=(za1 n.up lost (zea n.side (zaw (wayN n s.way) s.n).2.1).2.1).1.q) h sd.xs ho.ss (f:=(zaw (wayN n s.way) s.n).2.1) (by unfold wayN at hm⊢;rw[if_neg (by omega)]at hm⊢;exact hm) (zir _ _ _);have hn0:s.way≠0:=by omega
   show NI p (zea (setW n s.way _).side _).1 (setW n s.way _).sess (za1 (setW n s.way _).up lost (zea (setW n s.way _).side _).2.1).1.q (setW n s.way _).dn.q;rw[so.1,so.2.1,(so.2.2.2.2 hn0).1,(so.2.2.2.2 hn0).2];refine NI.mono q (fun g hg=>hg) ?_;have:=t.1;unfold wayN at this;rw[if_neg hn0]at this;unfold wayN;rw[if_neg hn0];exact this
  ·rename_i hway;have w0:s.way=0:=(hw (by omega)).resolve_right hway;have q:=NI.sess h hp sd.xs ho.ss (f:=(zaw (wayN n s.way) s.n).2.1) (by unfold wayN at hm⊢;rw[if_pos w0]at hm⊢;exact hm);have he:=zxl (setW n s.way (zaw (wayN n s.way) s.n).1).sess p (zaw (wayN n s.way) s.n).2.1;rw[zbx om.ss]at he;have kd:SdN {(setW n s.way (zaw (wayN n s.way) s.n).1)with sess:=(handle (setW n s.way (zaw (wayN n s.way) s.n).1).sess p (zaw (wayN n s.way) s.n).2.1).1} B:=⟨m.up,m.dn,m.ud,he.trans m.se,m.xs,m.xe,m.eB,m.tB⟩;have ok:OkN {(setW n s.way (zaw (wayN n s.way) s.n).1)with sess:=(handle (setW n s.way (zaw (wayN n s.way) s.n).1).sess p (zaw (wayN n s.way) s.n).2.1).1}:=⟨om.d,zek p _ om.ss,zjk _ om.ss om.so hp,om.up,om.dn,om.pl⟩;have kq:NodI p {(setW n s.way (zaw (wayN n s.way) s.n).1)with sess:=(handle (setW n s.way (zaw (wayN n s.way) s.n).1).sess p (zaw (wayN n s.way) s.n).2.1).1}:=by
    show NI p (setW n s.way _).side (handle (setW n s.way _).sess p _).1 (setW n s.way _).up.q (setW n s.way _).dn.q;rw[so.1,so.2.1,so.2.2.2.1 w0];refine NI.mono q ?_ (fun g hg=>hg);have:=t.1;unfold setW;rw[if_pos w0];intro g hg;have:=this g hg;unfold wayN at this;rw[if_pos w0]at this;exact this
   split
   ·exact kq
   ·exact kq.pump kd ok hB hp mx lost
 split
 ·exact hx _ (.inl rfl)
 split
 ·exact hx _ (.inr (.inl rfl))
 split
 ·exact hx _ (.inr (.inr rfl))
 split
 ·exact h.renew sd ho hB mx lost
 split
 ·exact h
 split
 ·exact NI.goes h (.pick sd.xs n.pool s.n) (zir _ _ _)
 ·exact h
theorem qst {p:Store}{r:Res}(h:InP p r)(adds:List Res)(gone:List Key):InP (zgz p adds gone) r:=by
 obtain⟨l,h1,h2⟩:=h;unfold zgz;split
 ·exact⟨l,List.mem_append_left _ h1,h2⟩
 ·exact⟨l,h1,h2⟩
theorem zvj {M:Mesh}{C:Int}(hM:OkM M C){s:MStep}(h0:s.kind=0)(he:zif M.p s.adds s.gone=0):(za2 M s).1.p=zgz M.p s.adds s.gone:=by
 have hn:¬M.ns=[]:=fun e=>by have:=hM.n1;rw[e]at this;simp at this
 unfold za2;rw[if_neg hn,if_neg (by omega),if_pos h0];unfold zdk;dsimp only;rw[if_neg (by omega)]
theorem NodI.step {M:Mesh}{C B:Int}(hM:OkM M C){s:MStep}{i:Nat}{n m:Node}(ho:OkN n)(sd:SdN n B)(hB:B≤1000000)(h:NodI M.p n)(st:NSt M s i n m):SdN m (B+1)∧NodI (za2 M s).1.p m:=by
 have hp:=hM.p;have hst:NodI (za2 M s).1.p n:=by
  rcases(zg5 M s).2 with e|⟨_,_,e⟩
  ·rw[e];exact h
  ·rw[e];exact NI.store h (fun r hr=>qst hr _ _)
 cases st with
 |same h=>exact⟨sd.mono (by omega),hst⟩
 |pump h0 he lost=>
  have hq:=zez hp s.adds s.gone;have e:=zvj hM h0 he;rw[e]at hst⊢;exact⟨sd.pump ho hB _ hq _,hst.pump sd ho hB hq _ _⟩
 |tick h0 lost=>exact⟨(sd.tick ho lost).mono (by omega),NI.tick ho.ss hst (zir _ _ _)⟩
 |one h1 h0 hw lost=>
  have e:(za2 M s).1.p=M.p:=by
   rcases(zg5 M s).2 with e|⟨q,_⟩
   ·exact e
   ·omega
  rw[e];exact⟨sd.single ho hB _ hp _ _,h.single sd ho hB hp _ _ _ hw⟩
theorem zjh (c:Cfg){l:List MStep}(hl:l.length≤100000)(hs:∀s∈l,OkSt s){i:Nat}{n:Node}(hn:(zb8 (newM c) l).1.ns[i]? =some n):SdN n l.length∧NodI (zb8 (newM c) l).1.p n:=
 qly (c:=c) (fun k _ p _ n=>SdN n (k:Int)∧NodI p n) (fun _=>⟨SdN.new c,NodI.new c _⟩) (fun M l s C i n m hM _ _ hl ho ih st=>by
  have:=NodI.step hM ho ih.1 (by omega) ih.2 st;exact⟨this.1.mono (by omega),this.2⟩) l hl hs i n hn
theorem qh6 {l:List Res}(ha:AscR l)(held:List Key):zlh l l held=none:=by
 have hA:∀n,zkl (zem l l) n=[]:=fun n=>by
  rw[List.eq_nil_iff_forall_not_mem];intro r hr;obtain⟨a,b⟩:=mem_diffA.1 (mem_kindL.1 hr).1;exact b (zbz ha a)
 have hG:∀n,zig (zf9 l l) n=[]:=fun n=>by
  rw[List.eq_nil_iff_forall_not_mem];intro k hk;obtain⟨a,b⟩:=List.mem_filter.1 (mem_kindG.1 hk).1;obtain⟨r,hr,rfl⟩:=List.mem_map.1 a;rw[zbz ha hr]at b;cases b
 unfold zlh;rw[List.find?_eq_none];intro x hx;have:x.adds=[]∧x.gone=[]:=by
  simp only[Job.steps,List.mem_cons,List.not_mem_nil,or_false]at hx;rcases hx with hx|hx|hx|hx|hx|hx|hx|hx|hx|hx<;>subst hx<;>simp[Job.early,Job.late,Job.doors,Job.free,zhp,hA,hG]
 simp[none_iff.2 this]
def zj1 (s:Side):List Res:=((zh9 s).map (·.l)).getD []
theorem ztg {s:Side}(h:za0 s=true):zj1 s=s.w.shown∧s.w.shown=zau s.w.c.l:=by
 have S:=saneX_iff.1 h;obtain⟨w1,w2,w3⟩:=saneW_iff.1 S.w;refine⟨?_,w2⟩;have a:=S.agrees;unfold zdz at a;unfold zj1 zh9;rw[zbh h];cases hc:curP s.p with
 |none=>
  rw[hc]at a;simp only[Bool.not_eq_true']at a;rcases w3 with q|q
  ·rw[a]at q;cases q
  ·rw[q];rfl
 |some c=>
  rw[hc]at a;simp only[Bool.and_eq_true,decide_eq_true_eq]at a;exact a.2
theorem qxr {p:Store}{n:Node}(h:NodI p n)(hp:sanS p=true)(ho:OkN n)(hx:za0 n.side=true)(hs:zfl n.sess p=true):
  n.sess.v.have_=nowL p∧n.side.w.c.l=nowL p∧zj1 n.side=zau (nowL p)∧zlh (nowL p) (nowL p) n.sess.v.held=none:=by
 unfold zfl at hs;rw[zbx ho.ss]at hs;simp only[Bool.and_eq_true,Bool.not_eq_true',decide_eq_true_eq]at hs;obtain⟨⟨h1,h2⟩,h3⟩:=hs;have e:n.side.w.c.l=nowL p:=by
  cases h.ph with
  |fresh hg=>rw[h1]at hg;cases hg
  |closed hg ho hv=>rw[←hv,h3]
  |sent hg ho=>rw[h2]at ho;cases ho
  |taken hg ho=>rw[h2]at ho;cases ho
 refine⟨h3,e,?_,qh6 (zcc (zp8 hp)) _⟩;have:=ztg hx;rw[this.1,this.2,e]
theorem qw4 {p:Store}{n:Node}(h:NodI p n)(hx:za0 n.side=true)(ho:n.sess.v.open_=true)(hk:n.sess.v.push.kind≠0):∀k∈n.sess.v.push.gone,k∉zcw n.side.p:=by
 intro k hm hh;have hh:=(zw3 (saneX_iff.1 hx).p).1 hh;cases h.ph with
 |fresh hg hq=>rw[ho]at hq;cases hq
 |closed hg hq=>rw[ho]at hq;cases hq
 |sent _ _ _ _ _ _ q=>exact(q hk k hm).2.1 hh
 |taken _ _ _ _ _ _ _ _ _ _ q=>exact q hk k hm hh
theorem quv {p:Store}{n:Node}(h:NodI p n)(hp:sanS p=true){q:Snap}(hq:q∈n.side.p.snaps):
  tabE q.l=0∧zbj q.l=0∧zra q.l=[]∧(∀r∈q.l,zku p r.key r.ver=some r)∧∀r∈q.l,r.kind≠0→(getR n.side.w.c.l r.key).isSome=true:=by
 have si:=h.com.si;have w:=si.whole q hq;exact⟨w.tab,w.serv,w.miss,fun r hr=>(si.sn q hq r hr).find hp,fun r hr hk=>si.keep r.key hk ⟨q,hq,r,hr,rfl⟩⟩
end Go.G
