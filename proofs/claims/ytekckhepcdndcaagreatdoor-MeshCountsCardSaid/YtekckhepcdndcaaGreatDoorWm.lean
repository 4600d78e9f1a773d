/-
  LAYER 24: the walks of a side, and of a step that it takes in a mesh of one to four.
-/
import Derived.Test.YtekckhepcdndcaaGreatDoorWl
import Derived.Test.YtekckhepcdndcaaGreatDoorWk
import Derived.Test.YtekckhepcdndcaaGreatDoorWi
import Derived.Test.YtekckhepcdndcaaGreatDoorWf
import Derived.Test.YtekckhepcdndcaaGreatDoorPq
import Derived.Test.YtekckhepcdndcaaGreatDoorFd
set_option linter.unusedSimpArgs false
set_option linter.unusedVariables false
namespace Go.Proofs.YtekckhepcdndcaaGreatDoor
open Go.AI Go.G
set_option maxRecDepth 20000
theorem qpt (l:FLk)(f:G.Frame)(h:OkL l)(he:za0 f=0):Ct Tryz.prog 116 [st (flkC l),lst ((zhz f).map byteC)] [] [] (.tup [st (flkC (zh1 l f).1),int (zh1 l f).2]) []:=by
 obtain⟨x,b,e⟩:=List.exists_cons_of_ne_nil (zzi f);have hl:=zua he;have:=qe7 (rlk l) x b h.lk (by rw[←e];omega);rw[←e,zhh]at this;rw[←zhh,←zhh]at*;have hs:zsh (rlk l) (zhz f)=(rlk (zh1 l f).1,(zh1 l f).2):=by
  unfold zsh zh1;rw[h.sound,if_neg (by simp[he])];by_cases hq:32≤l.q.length
  ·rw[if_pos hq,zma (by simpa[rlk]using hq)]
  ·rw[if_neg hq,zi0 (by simpa[rlk]using hq)];simp[rlk]
 rw[hs]at this;exact this
theorem qd8 (l:FLk)(i:Int)(h:OkL l):Ct Tryz.prog 109 [st (flkC l),int i] [] [] (.tup [st (flkC (zbe l i).1),lst ((if l.q=[]then []else zhz (zbe l i).2.1).map byteC),int (zbe l i).2.2]) []:=by
 have:=qd7 (rlk l) i h.lk;rw[zoh h]at this;simpa only[zhh]using this
theorem qr0 (l:FLk)(i:Int)(h:OkL l):Ct Tryz.prog 73 [st (flkC l),int i] [] [] (.tup [st (flkC (zns l i).1),int (zns l i).2]) []:=by
 have:=qvz (rlk l) i h.lk;rw[qih h]at this;simpa only[zhh]using this
theorem qm2 (l:FLk)(i:Int)(h:OkL l):Ct Tryz.prog 74 [st (flkC l),int i] [] [] (.tup [st (flkC (zgg l i).1),int (zgg l i).2]) []:=by
 have:=qsw (rlk l) i h.lk;rw[qdu h]at this;simpa only[zhh]using this
theorem qrc (l:FLk)(i:Int)(h:OkL l):Ct Tryz.prog 75 [st (flkC l),int i] [] [] (.tup [st (flkC (zlf l i).1),int (zlf l i).2]) []:=by
 have:=qu1 (rlk l) i h.lk;rw[qhe h]at this;simpa only[zhh]using this
theorem zkx (l:FLk)(h:OkL l):Ct Tryz.prog 155 [st (flkC l)] [] [] (.tup [st (flkC (if l.epoch=2147483647 then l else⟨l.epoch+1,[]⟩)),int (if l.epoch=2147483647 then 14 else 0)]) []:=by
 have:=qp1 (rlk l) h.lk.len;unfold zz2 at this;rw[h.sound]at this;simp only[zhh]at this;by_cases he:l.epoch=2147483647
 ·rw[if_pos (show(rlk l).epoch=2147483647 from he),zhh]at this;simpa only[if_pos he]using this
 ·rw[if_neg (show¬(rlk l).epoch=2147483647 from he)]at this;simp only[if_neg he];have e:rlkC ⟨(rlk l).epoch+1,[]⟩=flkC ⟨l.epoch+1,[]⟩:=rfl;rw[e]at this;exact this
attribute [simp] Tryz.ntmps145 Tryz.results145
theorem qnf (l:FLk)(f:G.Frame)(h:OkL l)(hf:OkFrame f):Ct Tryz.prog 145 [st (flkC l),st (zai f)] [] [] (.tup [st (flkC (zh1 l f).1),int (zh1 l f).2]) []:=by
 refine Ct.B Tryz.func145 mixed 9999 400 ?_;simp;by_cases he:za0 f=0
 ·have hl:=zk0 (frameE_zero.1 he);refine CI.p (qww f he) Tryz.call190 9999 ?_;simp;refine CI.p (qs3 (putB f) (by omega)) Tryz.call191 9999 ?_;simp;refine CI.p (qpt l f h he) Tryz.call116 9999 ?_ (ha:=by simp[zhz]);simp[zhz];first|exact fin0 (by simp) rfl|exact zaa (by simp)
 ·refine CI.p (qtz f hf he) Tryz.call190 9999 ?_;simp;simp[he];first|exact fin0 (by simp[zh1,he]) rfl|exact zaa (by simp[zh1,he])
abbrev zbu (c:Cfg)(p:Store)(lost:Int)(v:Value):Nat×Blk:=(0,.cells [int c.sides,int c.cap,int c.limit,int c.max,int p.cap,lst (p.hist.map rsC),.d (.v v),int lost] 109)
abbrev zau (c:Cfg)(p:Store)(lost:Int)(b:Nat):Nat×Blk:=(0,.cells [int c.sides,int c.cap,int c.limit,int c.max,int p.cap,lst (p.hist.map rsC),.own b,int lost] 109)
abbrev zcb (n:G.Node):Nat×Blk:=(1,.cells ((zb5 n).map .d) 117)
attribute [simp] Tryz.ntmps108 Tryz.results108
theorem zxu (v:Value)(c:Cfg)(p:Store)(lost:Int)(n:G.Node)(l:List G.Frame)(hn:OkL n.up)(hf:∀f∈l,OkFrame f)(hl:l.length≤1000)(h0:0≤lost)(h1:lost≤1000000000000):Ct Tryz.prog 108 [.ptr 0 0,.ptr 1 0,int 0,lst (l.map zai)] [] [zbu c p lost v,zcb n] (.tup []) [zbu c p (za1 n.up lost l).2 v,zcb {n with up:=(za1 n.up lost l).1}]:=by
 refine Ct.B Tryz.func108 mixed 9999 400 ?_;simp;refine LoopI.U mixed (l) (fun k=>[(0,.ptr 0 0),(1,.ptr 1 0),(2,int 0),(12,lst (l.map zai)),(13,int l.length),(14,int k.1)]) (fun k=>[zbu c p ((l.take k.1).foldl zap (n.up,lost)).2 v,zcb {n with up:=((l.take k.1).foldl zap (n.up,lost)).1}]) 64 [] (by constructor<;>simp) ?_;rintro⟨k,hk1⟩ B hB;refine CI.run 9999 400 rfl ?_;simp;refine sBI (fun h=>?_) (fun h=>?_)
 ·have hk:k<(l).length:=by simpa using h
  obtain⟨f,hx,hr,hm,ht,hd⟩:=inL hk;have hw:=wr (k:=k) (by omega);simp only[h];simp[hr,hw];have hz:=zor (l.take k) (z:=(n.up,lost)) hn;have hlen:(l.take k).length≤1000:=by simp;omega
  have ht2:(l.take (k+1)).foldl zap (n.up,lost)=zap ((l.take k).foldl zap (n.up,lost)) f:=by rw[ht,List.foldl_append];rfl
  generalize(l.take k).foldl zap (n.up,lost)=z at hz ht2⊢;refine CI.p (qnf z.1 f hz.1 (hf f hm)) Tryz.call145 9999 ?_;simp;refine⟨by decide+kernel,?_⟩;have w1:IntKind.wrap .i64 (z.2+1)=z.2+1:=zab (by simp only at hz;omega) (by simp only at hz;omega);by_cases h2:(zh1 z.1 f).2=0
  ·have e:zap z f=((zh1 z.1 f).1,z.2):=if_pos h2;rw[e]at ht2;simp[h2];refine⟨by decide+kernel,?_⟩;refine hB _ ⟨k+1,by omega⟩ [] ?_ (by simp;omega);constructor<;>simp[hw,ht2]
  ·have e:zap z f=(z.1,z.2+1):=if_neg h2;rw[e]at ht2;simp[h2,w1];refine hB _ ⟨k+1,by omega⟩ [] ?_ (by simp;omega);constructor<;>simp[hw,ht2]
 ·have hkl:k=(l).length:=by simp at h;omega
  subst hkl;simp only[h];simp[List.take_length,List.drop_length];first| (refine⟨[],?_,?_,?_,?_,?_,?_,?_⟩<;>simp[nmF,inB,za1];done)| (refine⟨by decide+kernel,?_⟩;refine⟨[],?_,?_,?_,?_,?_,?_,?_⟩<;>simp[nmF,inB,za1])
theorem qe9 (v:Value)(c:Cfg)(p:Store)(lost:Int)(n:G.Node)(l:List G.Frame)(hn:OkL n.dn)(hf:∀f∈l,OkFrame f)(hl:l.length≤1000)(h0:0≤lost)(h1:lost≤1000000000000):Ct Tryz.prog 108 [.ptr 0 0,.ptr 1 0,int 1,lst (l.map zai)] [] [zbu c p lost v,zcb n] (.tup []) [zbu c p (za1 n.dn lost l).2 v,zcb {n with dn:=(za1 n.dn lost l).1}]:=by
 refine Ct.B Tryz.func108 mixed 9999 400 ?_;simp;refine LoopI.U mixed (l) (fun k=>[(0,.ptr 0 0),(1,.ptr 1 0),(2,int 1),(12,lst (l.map zai)),(13,int l.length),(14,int k.1)]) (fun k=>[zbu c p ((l.take k.1).foldl zap (n.dn,lost)).2 v,zcb {n with dn:=((l.take k.1).foldl zap (n.dn,lost)).1}]) 64 [] (by constructor<;>simp) ?_;rintro⟨k,hk1⟩ B hB;refine CI.run 9999 400 rfl ?_;simp;refine sBI (fun h=>?_) (fun h=>?_)
 ·have hk:k<(l).length:=by simpa using h
  obtain⟨f,hx,hr,hm,ht,hd⟩:=inL hk;have hw:=wr (k:=k) (by omega);simp only[h];simp[hr,hw];have hz:=zor (l.take k) (z:=(n.dn,lost)) hn;have hlen:(l.take k).length≤1000:=by simp;omega
  have ht2:(l.take (k+1)).foldl zap (n.dn,lost)=zap ((l.take k).foldl zap (n.dn,lost)) f:=by rw[ht,List.foldl_append];rfl
  generalize(l.take k).foldl zap (n.dn,lost)=z at hz ht2⊢;refine CI.p (qnf z.1 f hz.1 (hf f hm)) Tryz.call145 9999 ?_;simp;refine⟨by decide+kernel,?_⟩;have w1:IntKind.wrap .i64 (z.2+1)=z.2+1:=zab (by simp only at hz;omega) (by simp only at hz;omega);by_cases h2:(zh1 z.1 f).2=0
  ·have e:zap z f=((zh1 z.1 f).1,z.2):=if_pos h2;rw[e]at ht2;simp[h2];refine⟨by decide+kernel,?_⟩;refine hB _ ⟨k+1,by omega⟩ [] ?_ (by simp;omega);constructor<;>simp[hw,ht2]
  ·have e:zap z f=(z.1,z.2+1):=if_neg h2;rw[e]at ht2;simp[h2,w1];refine hB _ ⟨k+1,by omega⟩ [] ?_ (by simp;omega);constructor<;>simp[hw,ht2]
 ·have hkl:k=(l).length:=by simp at h;omega
  subst hkl;simp only[h];simp[List.take_length,List.drop_length];first| (refine⟨[],?_,?_,?_,?_,?_,?_,?_⟩<;>simp[nmF,inB,za1];done)| (refine⟨by decide+kernel,?_⟩;refine⟨[],?_,?_,?_,?_,?_,?_,?_⟩<;>simp[nmF,inB,za1])
attribute [simp] Tryz.ntmps117 Tryz.results117
theorem qfu (v:Value)(c:Cfg)(p:Store)(lost:Int)(n:G.Node)(hn:OkN n)(h0:0≤lost)(h1:lost≤100000000000):Ct Tryz.prog 117 [.ptr 0 0,.ptr 1 0] [] [zbu c p lost v,zcb n] (int (za7 c.max lost n).2.2) [zbu c p (za7 c.max lost n).2.1 v,zcb (za7 c.max lost n).1]:=by
 refine Ct.B Tryz.func117 mixed 9999 400 ?_;simp;by_cases h2:n.up.epoch=2147483647
 ·have e:za7 c.max lost n=(n,lost,14):=if_pos (.inl h2);rw[e];refine LoopI.unroll mixed (Plain.retC _ _ _ _ _) rfl ?_;refine CI.run 9999 400 rfl ?_;simp;refine CI.p (zkx n.up hn.up) Tryz.call155 9999 ?_;simp;simp[h2];first| (refine⟨[],?_,?_,?_,?_,?_,?_,?_⟩<;>simp[nmF,inB,h2];done)| (refine⟨by decide+kernel,?_⟩;refine⟨[],?_,?_,?_,?_,?_,?_,?_⟩<;>simp[nmF,inB,h2])
 by_cases h3:n.dn.epoch=2147483647
 ·have e:za7 c.max lost n=(n,lost,14):=if_pos (.inr h3);rw[e];refine LoopI.unroll mixed (Plain.retC _ _ _ _ _) rfl ?_;refine CI.run 9999 400 rfl ?_;simp;refine CI.p (zkx n.up hn.up) Tryz.call155 9999 ?_;simp;simp[h2];refine LoopI.unroll mixed (Plain.retC _ _ _ _ _) rfl ?_;refine CI.run 9999 400 rfl ?_;simp;refine CI.p (zkx n.dn hn.dn) Tryz.call155 9999 ?_;simp;simp[h3];first| (refine⟨[],?_,?_,?_,?_,?_,?_,?_⟩<;>simp[nmF,inB,h3];done)| (refine⟨by decide+kernel,?_⟩;refine⟨[],?_,?_,?_,?_,?_,?_,?_⟩<;>simp[nmF,inB,h3])
 have cc:=hn.d.connect (n.up.epoch+1);have e:za7 c.max lost n=(⟨(zay n.side (n.up.epoch+1)).1,zci (n.up.epoch+1) c.max,(za1 ⟨n.up.epoch+1,[]⟩ lost (zay n.side (n.up.epoch+1)).2.1).1,⟨n.dn.epoch+1,[]⟩,n.pool⟩,(za1 ⟨n.up.epoch+1,[]⟩ lost (zay n.side (n.up.epoch+1)).2.1).2,(zay n.side (n.up.epoch+1)).2.2):=if_neg (by omega);rw[e];have up:=hn.up.fresh h2;refine LoopI.unroll mixed (Plain.retC _ _ _ _ _) rfl ?_;refine CI.run 9999 400 rfl ?_;simp;refine CI.p (zkx n.up hn.up) Tryz.call155 9999 ?_;simp;simp[h2];refine LoopI.unroll mixed (Plain.retC _ _ _ _ _) rfl ?_;refine CI.run 9999 400 rfl ?_;simp;refine CI.p (zkx n.dn hn.dn) Tryz.call155 9999 ?_;simp;simp[h3];refine LoopI.unroll mixed (Plain.retC _ _ _ _ _) rfl ?_;refine CI.run 9999 400 rfl ?_;simp;refine CI.p (zb8 (n.up.epoch+1) c.max) Tryz.call49 9999 ?_;simp;refine CI.p (qiq n.side (n.up.epoch+1) hn.d.x) Tryz.call156 9999 ?_;simp;generalize zay n.side (n.up.epoch+1)=X at cc⊢;refine CI.cc [0,1] (zxu v c p lost ⟨X.1,zci (n.up.epoch+1) c.max,⟨n.up.epoch+1,[]⟩,⟨n.dn.epoch+1,[]⟩,n.pool⟩ X.2.1 up cc.2.1 (by omega) h0 (by omega)) Tryz.call108 9999 ?_;simp;first| (refine⟨[],?_,?_,?_,?_,?_,?_,?_⟩<;>simp[nmF,inB];done)| (refine⟨by decide+kernel,?_⟩;refine⟨[],?_,?_,?_,?_,?_,?_,?_⟩<;>simp[nmF,inB])
attribute [simp] Tryz.ntmps106 Tryz.results106
theorem qng (v:Value)(c:Cfg)(p:Store)(lost:Int)(n:G.Node)(hn:OkN n)(hp:sanS p=true)(h0:0≤lost)(h1:lost≤10000000000):Ct Tryz.prog 106 [.ptr 0 0,.ptr 1 0] [] [zbu c p lost v,zcb n] (int (zdd c.max p lost n).2.2) [zbu c p (zdd c.max p lost n).2.1 v,zcb (zdd c.max p lost n).1]:=by
 refine Ct.B Tryz.func106 mixed 9999 400 ?_;simp;have S:=saneS_iff.1 hn.ss;have hpl:p.hist.length≤100000:=((zcg p).1 hp).2.1;refine CI.p (qt1 n.sess p hn.so (by have:=S.hl;omega) (by omega) (fun _=>⟨zhb (zyb hp),by have:=tab_len (zyb hp);omega⟩)) Tryz.call144 9999 ?_;simp;refine⟨by decide+kernel,?_⟩;obtain⟨p1,p2,p3,p4,p5⟩:=zsl hn.ss hn.so hp;unfold zdd;dsimp only;generalize pump n.sess p=R at p1 p2 p3 p4⊢;have l:=zfp hn.dn lost R.2.1;refine CI.cc [0,1] (qe9 v c p lost {n with sess:=R.1} R.2.1 hn.dn (fun f hf=>zfo (p3 f hf).1) (by omega) h0 (by omega)) Tryz.call108 9999 ?_;simp;have hm:OkN {n with sess:=R.1,dn:=(za1 n.dn lost R.2.1).1}:=⟨hn.d,p1,p2,hn.up,hn.dn.send _ _,hn.pl⟩;generalize za1 n.dn lost R.2.1=z at l hm⊢;refine sBI (fun h2=>?_) (fun h2=>?_)<;>simp only[h2]<;>simp<;>(try simp only[nT,nF,dT,dF]at h2)
 ·refine CI.cc [0,1] (qfu v c p z.2 {n with sess:=R.1,dn:=z.1} hm (by omega) (by omega)) Tryz.call117 9999 ?_;simp;first| (refine⟨[],?_,?_,?_,?_,?_,?_,?_⟩<;>simp[nmF,inB,h2];done)| (refine⟨by decide+kernel,?_⟩;refine⟨[],?_,?_,?_,?_,?_,?_,?_⟩<;>simp[nmF,inB,h2])
 ·first| (refine⟨[],?_,?_,?_,?_,?_,?_,?_⟩<;>simp[nmF,inB,h2];done)| (refine⟨by decide+kernel,?_⟩;refine⟨[],?_,?_,?_,?_,?_,?_,?_⟩<;>simp[nmF,inB,h2])
theorem zjo (b:Nat)(c:Cfg)(p:Store)(lost:Int)(n:G.Node)(hn:OkN n)(hp:sanS p=true)(h0:0≤lost)(h1:lost≤10000000000):Ct Tryz.prog 106 [.ptr 0 0,.ptr 1 0] [] [zau c p lost b,zcb n] (int (zdd c.max p lost n).2.2) [zau c p (zdd c.max p lost n).2.1 b,zcb (zdd c.max p lost n).1]:=
 Ct.hide (mr:=[]) (pre:=[int c.sides,int c.cap,int c.limit,int c.max,int p.cap,lst (p.hist.map rsC)]) (pre':=[int c.sides,int c.cap,int c.limit,int c.max,int p.cap,lst (p.hist.map rsC)]) rfl fun v=>qng v c p lost n hn hp h0 h1
attribute [simp] Tryz.ntmps110 Tryz.results110
theorem qvf (f:G.Frame)(he:za0 f=0):Ct Tryz.prog 110 [lst ((zhz f).map byteC)] [] [] (.tup [st (zai f),int 0]) []:=by
 refine Ct.B Tryz.func110 mixed 9999 400 ?_;simp;have hl:=zk0 (frameE_zero.1 he);obtain⟨x,b,e⟩:=List.exists_cons_of_ne_nil (qf3 f);have et:zhz f=zkm (x::b):=by rw[←e];rfl
 rw[et];refine CI.p (qnq x b (by rw[←e];omega)) Tryz.call13 9999 ?_;simp;have eb:(x::b).map byteC=(putB f).map byteC:=by rw[e]
 refine CI.p (qvi f he) Tryz.call14 9999 ?_ (ha:=by simp[←eb]);simp[←eb];first|exact fin0 (by simp) rfl|exact zaa (by simp)
attribute [simp] Tryz.ntmps50 Tryz.results50
theorem qvb (n:G.Node)(hn:OkN n):Ct Tryz.prog 50 [.ptr 0 0] [(0,.cells ((zb5 n).map .d) 117)] [] (bool (decide (n.up.q.length+n.dn.q.length+n.pool.tasks.length=0))) []:=by
 refine Ct.B Tryz.func50 mixed 9999 400 ?_;simp;have l1:=hn.up.len;have l2:=hn.dn.len;have l3:=hn.pl.p.lt;have w1:IntKind.wrap .i64 ((n.up.q.length:Int)+n.dn.q.length)=(n.up.q.length:Int)+n.dn.q.length:=zab (by omega) (by omega);have w2:IntKind.wrap .i64 ((n.up.q.length:Int)+n.dn.q.length+n.pool.tasks.length)=(n.up.q.length:Int)+n.dn.q.length+n.pool.tasks.length:=zab (by omega) (by omega);have e:(decide ((n.up.q.length:Int)+n.dn.q.length+n.pool.tasks.length=0))=decide (n.up.q.length+n.dn.q.length+n.pool.tasks.length=0):=decide_eq_decide.2 (by omega);simp[w1,w2,e];refine⟨by decide+kernel,?_⟩;first| (refine⟨[],?_,?_,?_,?_,?_,?_,?_⟩<;>simp[nmF,inB];done)| (refine⟨by decide+kernel,?_⟩;refine⟨[],?_,?_,?_,?_,?_,?_,?_⟩<;>simp[nmF,inB])
attribute [simp] Tryz.ntmps77 Tryz.results77
theorem qsm (v:Value)(c:Cfg)(p:Store)(lost:Int)(n:G.Node)(s:MStep)(hn:OkN n):Ct Tryz.prog 77 [.ptr 0 0,.ptr 1 0,st (mstepC s)] [] [zbu c p lost v,zcb n] (st (zam (ze0 lost n s).2.2)) [zbu c p (ze0 lost n s).2.1 v,zcb (ze0 lost n s).1]:=by
 refine Ct.B Tryz.func77 mixed 9999 400 ?_;simp;refine CI.p (qpb n.pool s.a hn.pl.p) Tryz.call118 9999 ?_;simp;refine⟨by decide+kernel,?_⟩;first| (refine⟨[],?_,?_,?_,?_,?_,?_,?_⟩<;>simp[nmF,inB,ze0,zAns];done)| (refine⟨by decide+kernel,?_⟩;refine⟨[],?_,?_,?_,?_,?_,?_,?_⟩<;>simp[nmF,inB,ze0,zAns])
attribute [simp] Tryz.ntmps76 Tryz.results76
theorem qsv (v:Value)(c:Cfg)(p:Store)(lost:Int)(n:G.Node)(s:MStep)(hn:OkN n)(h0:0≤lost)(h1:lost≤10000000000):Ct Tryz.prog 76 [.ptr 0 0,.ptr 1 0,st (mstepC s)] [] [zbu c p lost v,zcb n] (st (zam (outE (za7 c.max lost n).2.2))) [zbu c p (za7 c.max lost n).2.1 v,zcb (za7 c.max lost n).1]:=by
 refine Ct.B Tryz.func76 mixed 9999 400 ?_;simp;refine CI.cc [0,1] (qfu v c p lost n hn h0 (by omega)) Tryz.call117 9999 ?_;simp;first| (refine⟨[],?_,?_,?_,?_,?_,?_,?_⟩<;>simp[nmF,inB,outE,zAns];done)| (refine⟨by decide+kernel,?_⟩;refine⟨[],?_,?_,?_,?_,?_,?_,?_⟩<;>simp[nmF,inB,outE,zAns])
end Go.Proofs.YtekckhepcdndcaaGreatDoor
namespace Go.Proofs.YtekckhepcdndcaaGreatDoor
open Go.AI Go.G
set_option maxRecDepth 20000
attribute [simp] Tryz.ntmps71 Tryz.results71
theorem qms (v:Value)(c:Cfg)(p:Store)(lost:Int)(n:G.Node)(s:MStep)(hn:OkN n)(hp:sanS p=true)(hw:s.way=0)(h0:0≤lost)(h1:lost≤1000000000):Ct Tryz.prog 71 [.ptr 0 0,.ptr 1 0,st (mstepC s)] [] [zbu c p lost v,zcb n] (st (zam (zce c.max p lost n s).2.2)) [zbu c p (zce c.max p lost n s).2.1 v,zcb (zce c.max p lost n s).1]:=by
 refine Ct.B Tryz.func71 mixed 9999 400 ?_;simp;have ht:=hn.up.take s.n;have e0:wayN n s.way=n.up:=if_pos hw;have e1:∀l,setW n s.way l={n with up:=l}:=fun l=>if_pos hw;have hne:(zbe n.up s.n).2.2=0→n.up.q≠[]:=qd6;unfold zce;rw[e0];dsimp only;rw[e1];simp[hw];refine CI.p (qd8 n.up s.n hn.up) Tryz.call109 9999 ?_;simp;refine⟨by decide+kernel,?_⟩;refine⟨by decide+kernel,?_⟩;generalize zbe n.up s.n=t at ht hne⊢;by_cases h2:t.2.2=0
 ·have hq:=hne h2;simp[h2,hw];refine CI.p (qvf t.2.1 (ht.2 h2)) Tryz.call110 9999 ?_ (ha:=by simp[hq]);simp[hq];have S:=saneS_iff.1 hn.ss;have hpl:p.hist.length≤100000:=((zcg p).1 hp).2.1;refine CI.p (qhx n.sess p t.2.1 (by have:=S.dl;omega) hn.so.v.push (by have:=S.hl;omega) (zfo (ht.2 h2)) (ok_store hp) (by omega)) Tryz.call112 9999 ?_;simp;refine⟨by decide+kernel,?_⟩;have k1:=zft p t.2.1 hn.ss;have k2:=zmm t.2.1 hn.ss hn.so hp;generalize handle n.sess p t.2.1=r at k1 k2⊢;by_cases h3:r.2=0
  ·simp[h3];refine CI.cc [0,1] (qng v c p lost {n with up:=t.1,sess:=r.1} ⟨hn.d,k1,k2,ht.1,hn.dn,hn.pl⟩ hp h0 (by omega)) Tryz.call106 9999 ?_;simp;first| (refine⟨[],?_,?_,?_,?_,?_,?_,?_⟩<;>simp[nmF,inB,h3,outE,zAns];done)| (refine⟨by decide+kernel,?_⟩;refine⟨[],?_,?_,?_,?_,?_,?_,?_⟩<;>simp[nmF,inB,h3,outE,zAns])
  ·simp[h3];first| (refine⟨[],?_,?_,?_,?_,?_,?_,?_⟩<;>simp[nmF,inB,h3,outE,zAns];done)| (refine⟨by decide+kernel,?_⟩;refine⟨[],?_,?_,?_,?_,?_,?_,?_⟩<;>simp[nmF,inB,h3,outE,zAns])
 ·simp[h2];first| (refine⟨[],?_,?_,?_,?_,?_,?_,?_⟩<;>simp[nmF,inB,h2,outE,zAns];done)| (refine⟨by decide+kernel,?_⟩;refine⟨[],?_,?_,?_,?_,?_,?_,?_⟩<;>simp[nmF,inB,h2,outE,zAns])
theorem qmr (v:Value)(c:Cfg)(p:Store)(lost:Int)(n:G.Node)(s:MStep)(hn:OkN n)(hp:sanS p=true)(hw:s.way=1)(h0:0≤lost)(h1:lost≤1000000000):Ct Tryz.prog 71 [.ptr 0 0,.ptr 1 0,st (mstepC s)] [] [zbu c p lost v,zcb n] (st (zam (zce c.max p lost n s).2.2)) [zbu c p (zce c.max p lost n s).2.1 v,zcb (zce c.max p lost n s).1]:=by
 refine Ct.B Tryz.func71 mixed 9999 400 ?_;simp;have ht:=hn.dn.take s.n;have e0:wayN n s.way=n.dn:=if_neg (by omega);have e1:∀l,setW n s.way l={n with dn:=l}:=fun l=>if_neg (by omega)
 have hne:(zbe n.dn s.n).2.2=0→n.dn.q≠[]:=qd6;unfold zce;rw[e0];dsimp only;rw[e1];simp[hw];refine CI.p (qd8 n.dn s.n hn.dn) Tryz.call109 9999 ?_;simp;refine⟨by decide+kernel,?_⟩;refine⟨by decide+kernel,?_⟩;generalize zbe n.dn s.n=t at ht hne⊢;by_cases h2:t.2.2=0
 ·have hq:=hne h2;simp[h2,hw];refine CI.p (qvf t.2.1 (ht.2 h2)) Tryz.call110 9999 ?_ (ha:=by simp[hq]);simp[hq];refine CI.p (qpj n.side t.2.1 hn.d.x (zfo (ht.2 h2))) Tryz.call111 9999 ?_;simp;refine⟨by decide+kernel,?_⟩;have hs:=hn.d.side t.2.1;generalize zh0 n.side t.2.1=r at hs⊢;refine CI.cc [0,1] (zxu v c p lost {n with dn:=t.1,side:=r.1} r.2.1 hn.up hs.2.1 (by omega) h0 (by omega)) Tryz.call108 9999 ?_;simp;first| (refine⟨[],?_,?_,?_,?_,?_,?_,?_⟩<;>simp[nmF,inB,outE,zAns];done)| (refine⟨by decide+kernel,?_⟩;refine⟨[],?_,?_,?_,?_,?_,?_,?_⟩<;>simp[nmF,inB,outE,zAns])
 ·simp[h2];first| (refine⟨[],?_,?_,?_,?_,?_,?_,?_⟩<;>simp[nmF,inB,h2,outE,zAns];done)| (refine⟨by decide+kernel,?_⟩;refine⟨[],?_,?_,?_,?_,?_,?_,?_⟩<;>simp[nmF,inB,h2,outE,zAns])
theorem qsb (v:Value)(c:Cfg)(p:Store)(lost:Int)(n:G.Node)(s:MStep)(hn:OkN n)(hp:sanS p=true)(hw:s.way=0∨s.way=1)(h0:0≤lost)(h1:lost≤1000000000):Ct Tryz.prog 71 [.ptr 0 0,.ptr 1 0,st (mstepC s)] [] [zbu c p lost v,zcb n] (st (zam (zce c.max p lost n s).2.2)) [zbu c p (zce c.max p lost n s).2.1 v,zcb (zce c.max p lost n s).1]:=by
 rcases hw with hw|hw
 ·exact qms v c p lost n s hn hp hw h0 h1
 ·exact qmr v c p lost n s hn hp hw h0 h1
attribute [simp] Tryz.ntmps78 Tryz.results78
theorem qvg (v:Value)(c:Cfg)(p:Store)(lost:Int)(n:G.Node)(s:MStep)(hn:OkN n)(h0:0≤lost)(h1:lost≤1000000000):Ct Tryz.prog 78 [.ptr 0 0,.ptr 1 0,st (mstepC s)] [] [zbu c p lost v,zcb n] (st (zam (zkd lost n s).2.2)) [zbu c p (zkd lost n s).2.1 v,zcb (zkd lost n s).1]:=by
 refine Ct.B Tryz.func78 mixed 9999 400 ?_;simp;refine CI.p (qt5 n.pool n.side s.n hn.pl.p hn.d.x hn.d.n hn.pl.a) Tryz.call119 9999 ?_;simp;refine⟨by decide+kernel,?_⟩;refine⟨by decide+kernel,?_⟩;have hk:=hn.pl.pick hn.d s.n;have hlast:=qge (p:=n.pool) (s:=n.side) (draw:=s.n);unfold zkd;dsimp only;generalize zfn n.pool n.side s.n=r at hk hlast⊢;refine CI.cc [0,1] (zxu v c p lost {n with pool:=r.1,side:=r.2.1} r.2.2.1 hn.up hk.2.2.1 (by omega) h0 (by omega)) Tryz.call108 9999 ?_;simp;by_cases h2:r.2.2.2=0
 ·by_cases h3:r.1.tasks.length=n.pool.tasks.length
  ·have h3':(r.1.tasks.length:Int)=n.pool.tasks.length:=by omega
   simp[h2,h3'];first| (refine⟨[],?_,?_,?_,?_,?_,?_,?_⟩<;>simp[nmF,inB,h2,h3,outE,zAns];done)| (refine⟨by decide+kernel,?_⟩;refine⟨[],?_,?_,?_,?_,?_,?_,?_⟩<;>simp[nmF,inB,h2,h3,outE,zAns])
  ·have h3':¬(r.1.tasks.length:Int)=n.pool.tasks.length:=by omega
   obtain⟨i,x,e⟩:=hlast h3;have hd:=hk.1.p.ld;rw[e]at hd⊢;have w1:IntKind.wrap .i64 (i.length:Int)=i.length:=zab (by omega) (by simp at hd;omega);have e9:(i.length:Int)<i.length+1:=by omega
   simp[h2,h3',e,w1,e9,qax];first| (refine⟨[],?_,?_,?_,?_,?_,?_,?_⟩<;>simp[nmF,inB,h2,h3,zAns,e];done)| (refine⟨by decide+kernel,?_⟩;refine⟨[],?_,?_,?_,?_,?_,?_,?_⟩<;>simp[nmF,inB,h2,h3,zAns,e])
 ·simp[h2];first| (refine⟨[],?_,?_,?_,?_,?_,?_,?_⟩<;>simp[nmF,inB,h2,outE,zAns];done)| (refine⟨by decide+kernel,?_⟩;refine⟨[],?_,?_,?_,?_,?_,?_,?_⟩<;>simp[nmF,inB,h2,outE,zAns])
attribute [simp] Tryz.ntmps122 Tryz.results122
theorem qs2 (b:Bool):Ct Tryz.prog 122 [bool b] [] [] (int (yesI b)) []:=by
 refine Ct.B Tryz.func122 mixed 9999 400 ?_;simp;refine sBI (fun h1=>?_) (fun h1=>?_)<;>simp only[h1]<;>simp<;>(try simp only[nT,nF,dT,dF]at h1)
 ·first|exact fin0 (by simp[yesI,h1]) rfl|exact zaa (by simp[yesI,h1])
 ·first|exact fin0 (by simp[yesI,h1]) rfl|exact zaa (by simp[yesI,h1])
attribute [simp] Tryz.ntmps79 Tryz.results79
theorem qtd (v:Value)(c:Cfg)(p:Store)(lost:Int)(n:G.Node)(s:MStep)(hn:OkN n)(hp:sanS p=true):Ct Tryz.prog 79 [.ptr 0 0,.ptr 1 0,st (mstepC s)] [] [zbu c p lost v,zcb n] (st (zam (zl4 p lost n).2.2)) [zbu c p lost v,zcb n]:=by
 refine Ct.B Tryz.func79 mixed 9999 400 ?_;simp;have hpl:p.hist.length≤100000:=((zcg p).1 hp).2.1;refine CI.p (zsu p (by omega)) Tryz.call24 9999 ?_;simp;refine CI.p (qpk n.side hn.d.x) Tryz.call120 9999 ?_;simp;have hl:=zul hn.d.x;refine CI.cc [] (qaq (((zkt n.side).map (·.l)).getD []) (by omega)) Tryz.call121 9999 ?_;simp;refine CI.p (qs2 (zkt n.side).isSome) Tryz.call122 9999 ?_;simp;have S:=saneS_iff.1 hn.ss;refine CI.p (zun n.sess p hn.so (by have:=S.hl;omega) (by omega)) Tryz.call51 9999 ?_;simp;refine CI.p (qs2 (ziz n.sess p)) Tryz.call122 9999 ?_;simp;refine⟨by decide+kernel,?_⟩;first| (refine⟨[],?_,?_,?_,?_,?_,?_,?_⟩<;>simp[nmF,inB,zl4,zAns,nowI];done)| (refine⟨by decide+kernel,?_⟩;refine⟨[],?_,?_,?_,?_,?_,?_,?_⟩<;>simp[nmF,inB,zl4,zAns,nowI])
abbrev qus (n:G.Node):Nat×Blk:=(0,.cells ((zb5 n).map .d) 117)
attribute [simp] Tryz.ntmps113 Tryz.results113
theorem qvd (lost:Int)(n:G.Node)(s:MStep)(kf:D)(f:FLk→Int→FLk×Int)(hf:∀l i,OkL l→FnOk Tryz.prog (.d kf) [st (flkC l),int i] (.tup [st (flkC (f l i).1),int (f l i).2]))(hn:OkN n)(hw:s.way=0∨s.way=1):Ct Tryz.prog 113 [.ptr 0 0,st (mstepC s),.d (.pro [kf])] [] [qus n] (st (zam (ze4 f lost n s).2.2)) [qus (ze4 f lost n s).1]:=by
 refine Ct.B Tryz.func113 mixed 9999 400 ?_;simp;rcases hw with hw|hw
 ·simp[hw];refine CI.ff (hf n.up s.n hn.up) rfl rfl rfl 9999 ?_;simp;refine⟨by decide+kernel,?_⟩;refine⟨by decide+kernel,?_⟩;first| (refine⟨[],?_,?_,?_,?_,?_,?_,?_⟩<;>simp[nmF,inB,ze4,outE,zAns,setW,wayN,hw];done)| (refine⟨by decide+kernel,?_⟩;refine⟨[],?_,?_,?_,?_,?_,?_,?_⟩<;>simp[nmF,inB,ze4,outE,zAns,setW,wayN,hw])
 ·simp[hw];refine CI.ff (hf n.dn s.n hn.dn) rfl rfl rfl 9999 ?_;simp;refine⟨by decide+kernel,?_⟩;refine⟨by decide+kernel,?_⟩;first| (refine⟨[],?_,?_,?_,?_,?_,?_,?_⟩<;>simp[nmF,inB,ze4,outE,zAns,setW,wayN,hw];done)| (refine⟨by decide+kernel,?_⟩;refine⟨[],?_,?_,?_,?_,?_,?_,?_⟩<;>simp[nmF,inB,ze4,outE,zAns,setW,wayN,hw])
end Go.Proofs.YtekckhepcdndcaaGreatDoor
namespace Go.Proofs.YtekckhepcdndcaaGreatDoor
open Go.AI Go.G
set_option maxRecDepth 20000
set_option maxHeartbeats 4000000
abbrev qqr (i:Nat)(n:G.Node):Nat×Blk:=(i,.cells ((zb5 n).map .d) 117)
@[simp] theorem qln (p:Nat→Bool):∀l:List D,inA.inL p (l.map .d)=true
  |[]=>rfl
  |_::l=>by simp only[List.map_cons,inA.inL,inA,Bool.true_and];exact qln p l
@[simp] theorem ren_mapd (g:Nat→Nat):AV.ren g∘AV.d=AV.d:=by funext x;simp[AV.ren]
@[simp] def qiw :Nat→List (List D)→List (Nat×Blk)
  |_,[]=>[]
  |j,n::l=>(j,.cells (n.map .d) 117)::qiw (j+1) l
@[simp] def qak :Nat→List (List D)→List Nat
  |_,[]=>[]
  |j,_::l=>j::qak (j+1) l
abbrev BC (c:Cfg)(p:Store)(lost:Int)(ks:List (List D)):List (Nat×Blk):=zau c p lost 1::(1,.grp (qak 2 ks) 110)::qiw 2 ks
abbrev BM (M:G.Mesh):List (Nat×Blk):=BC M.c M.p M.lost (M.ns.map zb5)
abbrev mPre (c:Cfg)(p:Store):List AV:=[int c.sides,int c.cap,int c.limit,int c.max,int p.cap,lst (p.hist.map rsC)]
theorem four {α:Type}:∀{l:List α},1≤l.length→l.length≤4→(∃a,l=[a])∨(∃a b,l=[a,b])∨(∃a b c,l=[a,b,c])∨∃a b c d,l=[a,b,c,d]
 |[],h,_=>absurd h (by simp)
 |[a],_,_=>.inl ⟨a,rfl⟩
 |[a,b],_,_=>.inr (.inl ⟨a,b,rfl⟩)
 |[a,b,c],_,_=>.inr (.inr (.inl ⟨a,b,c,rfl⟩))
 |[a,b,c,d],_,_=>.inr (.inr (.inr ⟨a,b,c,d,rfl⟩))
 |_::_::_::_::_::_,_,h=>absurd h (by simp)
attribute [simp] Tryz.ntmps11 Tryz.results11 Tryz.ntmps31 Tryz.results31
theorem zfh (c:Cfg)(p:Store)(lost:Int)(ks:List (List D))(h1:1≤ks.length)(h4:ks.length≤4):Ct Tryz.prog 11 [.ptr 0 0] (BC c p lost ks) [] (int ks.length) []:=by
 rcases four h1 h4 with⟨a,e⟩|⟨a,b,e⟩|⟨a,b,d,e⟩|⟨a,b,d,f,e⟩
 all_goals
  subst e;refine Ct.B Tryz.func11 mixed 9999 400 ?_;simp;first| (refine⟨[],?_,?_,?_,?_,?_,?_,?_⟩<;>simp[nmF,inB];done)| (refine⟨by decide+kernel,?_⟩;refine⟨[],?_,?_,?_,?_,?_,?_,?_⟩<;>simp[nmF,inB])
theorem zpe (c:Cfg)(p:Store)(lost:Int)(ks:List (List D))(k_:Int)(i:Nat)(hk:k_=i)(hi:i<ks.length)(h4:ks.length≤4):Ct Tryz.prog 31 [.ptr 0 0,int k_] (BC c p lost ks) [] (.ptr (2+i) 0) []:=by
 have h1:1≤ks.length:=by omega
 have e:k_=0∧i=0∨k_=1∧i=1∨k_=2∧i=2∨k_=3∧i=3:=by omega
 rcases four h1 h4 with⟨a,x⟩|⟨a,b,x⟩|⟨a,b,d,x⟩|⟨a,b,d,f,x⟩<;>subst x<;>rcases e with⟨x,y⟩|⟨x,y⟩|⟨x,y⟩|⟨x,y⟩<;>subst x<;>subst y
 all_goals first
  | (exfalso;simp at hi;done)
  |skip
 all_goals
  refine Ct.B Tryz.func31 mixed 9999 400 ?_;simp;refine CI.cc [0,1,2,3,4,5] (zfh c p lost _ h1 h4) Tryz.call11 9999 ?_;simp;first| (refine⟨[],?_,?_,?_,?_,?_,?_,?_⟩<;>simp[nmF,inB];done)| (refine⟨by decide+kernel,?_⟩;refine⟨[],?_,?_,?_,?_,?_,?_,?_⟩<;>simp[nmF,inB])
theorem qqq (c:Cfg)(p:Store)(lost:Int)(ks:List (List D))(k_:Int)(hk:k_<0∨ks.length≤k_)(h1:1≤ks.length)(h4:ks.length≤4):Ct Tryz.prog 31 [.ptr 0 0,int k_] (BC c p lost ks) [] (.d (.v (.pointer none))) []:=by
 rcases four h1 h4 with⟨a,x⟩|⟨a,b,x⟩|⟨a,b,d,x⟩|⟨a,b,d,f,x⟩<;>subst x<;>by_cases hz:k_<0
 all_goals
  simp[hz]at hk;refine Ct.B Tryz.func31 mixed 9999 400 ?_;simp[hz]
  try
   refine CI.cc [0,1,2,3,4,5] (zfh c p lost _ h1 h4) Tryz.call11 9999 ?_;simp;simp[hk]
  first| (refine⟨[],?_,?_,?_,?_,?_,?_,?_⟩<;>simp[nmF,inB];done)| (refine⟨by decide+kernel,?_⟩;refine⟨[],?_,?_,?_,?_,?_,?_,?_⟩<;>simp[nmF,inB])
attribute [simp] Tryz.ntmps40 Tryz.results40
theorem qjc (v:Value)(c:Cfg)(p:Store)(lost:Int):Ct Tryz.prog 40 [.ptr 0 0,int 0] [] [zbu c p lost v] (.fn (.func 69) [.ptr 0 0] []) [zbu c p lost v]:=by
 refine Ct.B Tryz.func40 mixed 9999 400 ?_;simp;first| (refine⟨[],?_,?_,?_,?_,?_,?_,?_⟩<;>simp[nmF,inB];done)| (refine⟨by decide+kernel,?_⟩;refine⟨[],?_,?_,?_,?_,?_,?_,?_⟩<;>simp[nmF,inB])
theorem qi9 (v:Value)(c:Cfg)(p:Store)(lost:Int)(k_:Int)(h0:¬k_=0)(h6:¬k_=6):Ct Tryz.prog 40 [.ptr 0 0,int k_] [] [zbu c p lost v] (.d (.v .nilFunc)) [zbu c p lost v]:=by
 refine Ct.B Tryz.func40 mixed 9999 400 ?_;simp;simp[h0,h6];first| (refine⟨[],?_,?_,?_,?_,?_,?_,?_⟩<;>simp[nmF,inB];done)| (refine⟨by decide+kernel,?_⟩;refine⟨[],?_,?_,?_,?_,?_,?_,?_⟩<;>simp[nmF,inB])
attribute [simp] Tryz.ntmps41 Tryz.results41
theorem qez (v:Value)(c:Cfg)(p:Store)(lost:Int):Ct Tryz.prog 41 [.ptr 0 0,int 1] [] [zbu c p lost v] (.fn (.func 71) [.ptr 0 0] []) [zbu c p lost v]:=by
 refine Ct.B Tryz.func41 mixed 9999 400 ?_;simp;first| (refine⟨[],?_,?_,?_,?_,?_,?_,?_⟩<;>simp[nmF,inB];done)| (refine⟨by decide+kernel,?_⟩;refine⟨[],?_,?_,?_,?_,?_,?_,?_⟩<;>simp[nmF,inB])
theorem qer (v:Value)(c:Cfg)(p:Store)(lost:Int):Ct Tryz.prog 41 [.ptr 0 0,int 5] [] [zbu c p lost v] (.fn (.func 76) [.ptr 0 0] []) [zbu c p lost v]:=by
 refine Ct.B Tryz.func41 mixed 9999 400 ?_;simp;first| (refine⟨[],?_,?_,?_,?_,?_,?_,?_⟩<;>simp[nmF,inB];done)| (refine⟨by decide+kernel,?_⟩;refine⟨[],?_,?_,?_,?_,?_,?_,?_⟩<;>simp[nmF,inB])
theorem qep (v:Value)(c:Cfg)(p:Store)(lost:Int):Ct Tryz.prog 41 [.ptr 0 0,int 7] [] [zbu c p lost v] (.fn (.func 77) [.ptr 0 0] []) [zbu c p lost v]:=by
 refine Ct.B Tryz.func41 mixed 9999 400 ?_;simp;first| (refine⟨[],?_,?_,?_,?_,?_,?_,?_⟩<;>simp[nmF,inB];done)| (refine⟨by decide+kernel,?_⟩;refine⟨[],?_,?_,?_,?_,?_,?_,?_⟩<;>simp[nmF,inB])
theorem qen (v:Value)(c:Cfg)(p:Store)(lost:Int):Ct Tryz.prog 41 [.ptr 0 0,int 8] [] [zbu c p lost v] (.fn (.func 78) [.ptr 0 0] []) [zbu c p lost v]:=by
 refine Ct.B Tryz.func41 mixed 9999 400 ?_;simp;first| (refine⟨[],?_,?_,?_,?_,?_,?_,?_⟩<;>simp[nmF,inB];done)| (refine⟨by decide+kernel,?_⟩;refine⟨[],?_,?_,?_,?_,?_,?_,?_⟩<;>simp[nmF,inB])
theorem qel (v:Value)(c:Cfg)(p:Store)(lost:Int):Ct Tryz.prog 41 [.ptr 0 0,int 9] [] [zbu c p lost v] (.fn (.func 79) [.ptr 0 0] []) [zbu c p lost v]:=by
 refine Ct.B Tryz.func41 mixed 9999 400 ?_;simp;first| (refine⟨[],?_,?_,?_,?_,?_,?_,?_⟩<;>simp[nmF,inB];done)| (refine⟨by decide+kernel,?_⟩;refine⟨[],?_,?_,?_,?_,?_,?_,?_⟩<;>simp[nmF,inB])
theorem qja (v:Value)(c:Cfg)(p:Store)(lost:Int):Ct Tryz.prog 40 [.ptr 0 0,int 6] [] [zbu c p lost v] (.fn (.func 70) [.ptr 0 0] []) [zbu c p lost v]:=by
 refine Ct.B Tryz.func40 mixed 9999 400 ?_;simp;first| (refine⟨[],?_,?_,?_,?_,?_,?_,?_⟩<;>simp[nmF,inB];done)| (refine⟨by decide+kernel,?_⟩;refine⟨[],?_,?_,?_,?_,?_,?_,?_⟩<;>simp[nmF,inB])
attribute [simp] Tryz.ntmps72 Tryz.results72
theorem zte (f:Nat):Ct Tryz.prog 72 [.d (fnD f)] [] [] (.d (.fn (.func 113) [] [.pro [fnD f]])) []:=by
 refine Ct.B Tryz.func72 mixed 1 400 ?_;simp;refine CI.s (tm:=[(1,.d (.pro [fnD f]))]) (mm:=[]) (nx:=65) [] [64] (by constructor<;>simp) ?_;refine CI.run 9999 400 rfl ?_;simp;first|exact fin0 (by simp) rfl|exact zaa (by simp)
theorem qex (v:Value)(c:Cfg)(p:Store)(lost:Int):Ct Tryz.prog 41 [.ptr 0 0,int 2] [] [zbu c p lost v] (.d (.fn (.func 113) [] [.pro [fnD 73]])) [zbu c p lost v]:=by
 refine Ct.B Tryz.func41 mixed 9999 400 ?_;simp;refine CI.p (zte 73) Tryz.call72 9999 ?_;simp;first| (refine⟨[],?_,?_,?_,?_,?_,?_,?_⟩<;>simp[nmF,inB];done)| (refine⟨by decide+kernel,?_⟩;refine⟨[],?_,?_,?_,?_,?_,?_,?_⟩<;>simp[nmF,inB])
theorem qev (v:Value)(c:Cfg)(p:Store)(lost:Int):Ct Tryz.prog 41 [.ptr 0 0,int 3] [] [zbu c p lost v] (.d (.fn (.func 113) [] [.pro [fnD 74]])) [zbu c p lost v]:=by
 refine Ct.B Tryz.func41 mixed 9999 400 ?_;simp;refine CI.p (zte 74) Tryz.call72 9999 ?_;simp;first| (refine⟨[],?_,?_,?_,?_,?_,?_,?_⟩<;>simp[nmF,inB];done)| (refine⟨by decide+kernel,?_⟩;refine⟨[],?_,?_,?_,?_,?_,?_,?_⟩<;>simp[nmF,inB])
theorem qet (v:Value)(c:Cfg)(p:Store)(lost:Int):Ct Tryz.prog 41 [.ptr 0 0,int 4] [] [zbu c p lost v] (.d (.fn (.func 113) [] [.pro [fnD 75]])) [zbu c p lost v]:=by
 refine Ct.B Tryz.func41 mixed 9999 400 ?_;simp;refine CI.p (zte 75) Tryz.call72 9999 ?_;simp;first| (refine⟨[],?_,?_,?_,?_,?_,?_,?_⟩<;>simp[nmF,inB];done)| (refine⟨by decide+kernel,?_⟩;refine⟨[],?_,?_,?_,?_,?_,?_,?_⟩<;>simp[nmF,inB])
attribute [simp] Tryz.ntmps67 Tryz.results67
theorem zzf (a b:Int):Ct Tryz.prog 67 [int a,int b] [] [] (bool (decide (0≤a)&&decide (a≤b))) []:=by
 refine Ct.B Tryz.func67 mixed 9999 400 ?_;simp
 repeat' first
  | (refine sGI (fun h=>?_) (fun h=>?_)<;>simp only[h]<;>simp[h])
  | (refine sBI (fun h=>?_) (fun h=>?_)<;>simp only[h]<;>simp[h])
  | (refine⟨(show za5 _ _ from by decide+kernel),?_⟩)
  |fail
 all_goals exact fin0 (by simp[*]) rfl
attribute [simp] Tryz.ntmps68 Tryz.results68
theorem qq3 :Ct Tryz.prog 68 [] [] [] (.agg [str ⟨#[117,112,100,97,116,101]⟩,str ⟨#[98,114,105,110,103]⟩,str ⟨#[108,111,115,101]⟩,str ⟨#[97,103,97,105,110]⟩,str ⟨#[108,97,116,101]⟩,str ⟨#[114,101,110,101,119]⟩,str ⟨#[116,105,99,107]⟩,str ⟨#[98,101,103,105,110]⟩,str ⟨#[103,111]⟩,str ⟨#[116,101,108,108]⟩]) []:=by
 refine Ct.B Tryz.func68 mixed 9999 400 ?_;simp;first|exact fin0 (by simp) rfl|exact zaa (by simp)
def nmS (k_:Int):Str:=([⟨#[117,112,100,97,116,101]⟩,⟨#[98,114,105,110,103]⟩,⟨#[108,111,115,101]⟩,⟨#[97,103,97,105,110]⟩,⟨#[108,97,116,101]⟩,⟨#[114,101,110,101,119]⟩,⟨#[116,105,99,107]⟩,⟨#[98,101,103,105,110]⟩,⟨#[103,111]⟩,⟨#[116,101,108,108]⟩]:List Str).getD k_.toNat ⟨#[]⟩
theorem zvl {k_:Int}(h0:0≤k_)(h9:k_≤9):¬nmS k_=⟨#[]⟩:=by
 have e:k_=0∨k_=1∨k_=2∨k_=3∨k_=4∨k_=5∨k_=6∨k_=7∨k_=8∨k_=9:=by omega
 rcases e with e|e|e|e|e|e|e|e|e|e<;>subst e<;>simp[nmS]
attribute [simp] Tryz.ntmps39 Tryz.results39
theorem zvp (k_:Int)(h0:0≤k_)(h9:k_≤9):Ct Tryz.prog 39 [int k_] [] [] (str (nmS k_)) []:=by
 refine Ct.B Tryz.func39 mixed 9999 400 ?_;simp;refine CI.p (zzf k_ 9) Tryz.call67 9999 ?_;simp;have e:k_=0∨k_=1∨k_=2∨k_=3∨k_=4∨k_=5∨k_=6∨k_=7∨k_=8∨k_=9:=by omega
 rcases e with e|e|e|e|e|e|e|e|e|e
 all_goals
  subst e
 all_goals
  simp;refine CI.p qq3 Tryz.call68 9999 ?_;simp;first|exact fin0 (by simp[nmS]) rfl|exact zaa (by simp[nmS])
theorem qq6 (k_:Int)(h:¬(0≤k_∧k_≤9)):Ct Tryz.prog 39 [int k_] [] [] (str ⟨#[]⟩) []:=by
 refine Ct.B Tryz.func39 mixed 9999 400 ?_;simp;refine CI.p (zzf k_ 9) Tryz.call67 9999 ?_;simp;have e:(!decide (0≤k_)|| !decide (k_≤9))=true:=by simp;omega
 simp[e];first|exact fin0 (by simp) rfl|exact zaa (by simp)
end Go.Proofs.YtekckhepcdndcaaGreatDoor
namespace Go.Proofs.YtekckhepcdndcaaGreatDoor
open Go.AI Go.G
set_option maxRecDepth 20000
set_option maxHeartbeats 4000000
theorem znw (b:Nat)(c:Cfg)(p:Store)(lost k_:Int)(h0:¬k_=0)(h6:¬k_=6):Ct Tryz.prog 40 [.ptr 0 0,int k_] [] [zau c p lost b] (.d (.v .nilFunc)) [zau c p lost b]:=Ct.hide (mr:=[]) (pre:=mPre c p) (pre':=mPre c p) (post:=[int lost]) (post':=[int lost]) rfl fun v=>qi9 v c p lost k_ h0 h6
attribute [simp] Tryz.ntmps16 Tryz.results16
abbrev ndB (j:Nat)(cs:List D):Nat×Blk:=(j,.cells (cs.map .d) 117)
theorem qpa (c:Cfg)(p:Store)(lost:Int)(ks:List (List D))(s:MStep)(i:Nat)(cs:List D)(F:Nat)(cs':List D)(o:MOut)(l':Int)(k1:1≤s.kind)(k9:s.kind≤9)(k6:¬s.kind=6)(hw:s.kind≤4→s.way=0∨s.way=1)(h4:ks.length≤4)(hi:ks[i]? =some cs)(hs:s.side=i)(hen:zcp Tryz.prog F)
  (hS:Ct Tryz.prog 41 [.ptr 0 0,int s.kind] [] [zau c p lost 1] (.fn (.func F) [.ptr 0 0] []) [zau c p lost 1])
  (hF:Ct Tryz.prog F [.ptr 0 0,.ptr 1 0,st (mstepC s)] [] [zau c p lost 2,ndB 1 cs] (st (zam o)) [zau c p l' 2,ndB 1 cs']):Ct Tryz.prog 16 [.ptr 0 0,st (mstepC s)] [] (BC c p lost ks) (st (zam o)) (BC c p l' (ks.set i cs')):=by
 have hl:i<ks.length:=(List.getElem?_eq_some_iff.1 hi).1;have h1:1≤ks.length:=by omega
 have hne:=zvl (k_:=s.kind) (by omega) k9;have k0:¬s.kind=0:=by omega
 have e:s.side=0∧i=0∨s.side=1∧i=1∨s.side=2∧i=2∨s.side=3∧i=3:=by omega
 have q:(s.kind≤4∧¬s.way<0∧¬2≤s.way)∨(¬s.kind≤4∧True∧True):=by
  by_cases g:s.kind≤4
  ·exact .inl ⟨g,by have:=hw g;omega⟩
  ·exact .inr ⟨g,trivial,trivial⟩
 rcases four h1 h4 with⟨a,x⟩|⟨a,b,x⟩|⟨a,b,d,x⟩|⟨a,b,d,f,x⟩<;>subst x<;>rcases e with⟨e,x⟩|⟨e,x⟩|⟨e,x⟩|⟨e,x⟩<;>subst x
 all_goals first
  | (exfalso;simp at hl;done)
  |skip
 all_goals
  simp at hi;subst hi;rcases q with⟨g1,g2,g3⟩|⟨g1,g2,g3⟩
 all_goals
  refine Ct.B Tryz.func16 mixed 9999 400 ?_;simp;refine CI.cc [0,1,2,3,4,5] (zfh c p lost _ h1 h4) Tryz.call11 9999 ?_;simp;refine CI.p (zvp s.kind (by omega) k9) Tryz.call39 9999 ?_;simp;simp[hne];refine CI.cc [0,1] (znw 1 c p lost s.kind k0 k6) Tryz.call40 9999 ?_;simp;refine CI.cc [0,1,2,3,4,5] (zpe c p lost _ s.side _ hs hl h4) Tryz.call31 9999 ?_;simp;simp[g1,g2,g3];refine CI.cc [0,1] hS Tryz.call41 9999 ?_;simp;refine CI.cc [0,2+s.side.toNat,1] hF hen 9999 ?_ (ha:=by simp[e]) (hn:=by constructor<;>simp[nmOk,e]) (hk:=by simp[e]);simp[e];first| (refine⟨[],?_,?_,?_,?_,?_,?_,?_⟩<;>simp[nmF,inB];done)| (refine⟨by decide+kernel,?_⟩;refine⟨[],?_,?_,?_,?_,?_,?_,?_⟩<;>simp[nmF,inB])
theorem qo9 (c:Cfg)(p:Store)(lost:Int)(ks:List (List D))(s:MStep)(i:Nat)(cs:List D)(F:Nat)(cs':List D)(o:MOut)(kf:D)(k1:1≤s.kind)(g1:s.kind≤4)(hw:s.way=0∨s.way=1)(h4:ks.length≤4)(hi:ks[i]? =some cs)(hs:s.side=i)(hen:zcp Tryz.prog F)
  (hS:Ct Tryz.prog 41 [.ptr 0 0,int s.kind] [] [zau c p lost 1] (.d (.fn (.func F) [] [.pro [kf]])) [zau c p lost 1])
  (hF:Ct Tryz.prog F [.ptr 0 0,st (mstepC s),.d (.pro [kf])] [] [ndB 0 cs] (st (zam o)) [ndB 0 cs']):Ct Tryz.prog 16 [.ptr 0 0,st (mstepC s)] [] (BC c p lost ks) (st (zam o)) (BC c p lost (ks.set i cs')):=by
 have hl:i<ks.length:=(List.getElem?_eq_some_iff.1 hi).1;have h1:1≤ks.length:=by omega
 have k9:s.kind≤9:=by omega
 have k6:¬s.kind=6:=by omega
 have g2:¬s.way<0:=by omega
 have g3:¬2≤s.way:=by omega
 have hne:=zvl (k_:=s.kind) (by omega) k9;have k0:¬s.kind=0:=by omega
 have e:s.side=0∧i=0∨s.side=1∧i=1∨s.side=2∧i=2∨s.side=3∧i=3:=by omega
 rcases four h1 h4 with⟨a,x⟩|⟨a,b,x⟩|⟨a,b,d,x⟩|⟨a,b,d,f,x⟩<;>subst x<;>rcases e with⟨e,x⟩|⟨e,x⟩|⟨e,x⟩|⟨e,x⟩<;>subst x
 all_goals first
  | (exfalso;simp at hl;done)
  |skip
 all_goals
  simp at hi;subst hi
 all_goals
  refine Ct.B Tryz.func16 mixed 9999 400 ?_;simp;refine CI.cc [0,1,2,3,4,5] (zfh c p lost _ h1 h4) Tryz.call11 9999 ?_;simp;refine CI.p (zvp s.kind (by omega) k9) Tryz.call39 9999 ?_;simp;simp[hne];refine CI.cc [0,1] (znw 1 c p lost s.kind k0 k6) Tryz.call40 9999 ?_;simp;refine CI.cc [0,1,2,3,4,5] (zpe c p lost _ s.side _ hs hl h4) Tryz.call31 9999 ?_;simp;simp[g1,g2,g3];refine CI.cc [0,1] hS Tryz.call41 9999 ?_;simp;refine CI.cc [2+s.side.toNat] hF hen 9999 ?_ (ha:=by simp[e]) (hn:=by constructor<;>simp[nmOk,e]) (hk:=by simp[e]);simp[e];first| (refine⟨[],?_,?_,?_,?_,?_,?_,?_⟩<;>simp[nmF,inB];done)| (refine⟨by decide+kernel,?_⟩;refine⟨[],?_,?_,?_,?_,?_,?_,?_⟩<;>simp[nmF,inB])
end Go.Proofs.YtekckhepcdndcaaGreatDoor
namespace Go.Proofs.YtekckhepcdndcaaGreatDoor
open Go.AI Go.G
set_option maxRecDepth 20000
set_option maxHeartbeats 4000000
theorem qo8 (c:Cfg)(p:Store)(lost:Int)(ks:List (List D))(s:MStep)(h1:1≤ks.length)(h4:ks.length≤4)(hk:¬(0≤s.kind∧s.kind≤9)):Ct Tryz.prog 16 [.ptr 0 0,st (mstepC s)] [] (BC c p lost ks) (st (zam (outE 4))) (BC c p lost ks):=by
 rcases four h1 h4 with⟨a,x⟩|⟨a,b,x⟩|⟨a,b,d,x⟩|⟨a,b,d,f,x⟩<;>subst x
 all_goals
  refine Ct.B Tryz.func16 mixed 9999 400 ?_;simp;refine CI.cc [0,1,2,3,4,5] (zfh c p lost _ h1 h4) Tryz.call11 9999 ?_;simp;refine CI.p (qq6 s.kind hk) Tryz.call39 9999 ?_;simp;first| (refine⟨[],?_,?_,?_,?_,?_,?_,?_⟩<;>simp[nmF,inB,outE,zAns];done)| (refine⟨by decide+kernel,?_⟩;refine⟨[],?_,?_,?_,?_,?_,?_,?_⟩<;>simp[nmF,inB,outE,zAns])
theorem qjp (c:Cfg)(p:Store)(lost:Int)(ks:List (List D))(s:MStep)(h1:1≤ks.length)(h4:ks.length≤4)(k1:1≤s.kind)(k9:s.kind≤9)(k6:¬s.kind=6)(hs:s.side<0∨ks.length≤s.side):Ct Tryz.prog 16 [.ptr 0 0,st (mstepC s)] [] (BC c p lost ks) (st (zam (outE 10))) (BC c p lost ks):=by
 have q:(s.kind≤4∧s.way<0∧True)∨(s.kind≤4∧¬s.way<0∧2≤s.way)∨(s.kind≤4∧¬s.way<0∧¬2≤s.way)∨(¬s.kind≤4∧True∧True):=by
  by_cases g:s.kind≤4<;>by_cases g':s.way<0<;>by_cases g'':2≤s.way<;>simp[g,g',g'']
 have hne:=zvl (k_:=s.kind) (by omega) k9;have k0:¬s.kind=0:=by omega
 rcases four h1 h4 with⟨a,x⟩|⟨a,b,x⟩|⟨a,b,d,x⟩|⟨a,b,d,f,x⟩<;>subst x<;>rcases q with⟨g1,g2,g3⟩|⟨g1,g2,g3⟩|⟨g1,g2,g3⟩|⟨g1,g2,g3⟩
 all_goals
  refine Ct.B Tryz.func16 mixed 9999 400 ?_;simp;refine CI.cc [0,1,2,3,4,5] (zfh c p lost _ h1 h4) Tryz.call11 9999 ?_;simp;refine CI.p (zvp s.kind (by omega) k9) Tryz.call39 9999 ?_;simp;simp[hne];refine CI.cc [0,1] (znw 1 c p lost s.kind k0 k6) Tryz.call40 9999 ?_;simp;refine CI.cc [0,1,2,3,4,5] (qqq c p lost _ s.side hs h1 h4) Tryz.call31 9999 ?_;simp;simp[g1,g2,g3];first| (refine⟨[],?_,?_,?_,?_,?_,?_,?_⟩<;>simp[nmF,inB,outE,zAns];done)| (refine⟨by decide+kernel,?_⟩;refine⟨[],?_,?_,?_,?_,?_,?_,?_⟩<;>simp[nmF,inB,outE,zAns])
theorem qjo (c:Cfg)(p:Store)(lost:Int)(ks:List (List D))(s:MStep)(i:Nat)(hi:i<ks.length)(h4:ks.length≤4)(hs:s.side=i)(k1:1≤s.kind)(g1:s.kind≤4)(hw:s.way<0∨2≤s.way):Ct Tryz.prog 16 [.ptr 0 0,st (mstepC s)] [] (BC c p lost ks) (st (zam (outE 10))) (BC c p lost ks):=by
 have h1:1≤ks.length:=by omega
 have k9:s.kind≤9:=by omega
 have k6:¬s.kind=6:=by omega
 have q:(s.way<0∧True)∨(¬s.way<0∧2≤s.way):=by
  by_cases g:s.way<0
  ·exact .inl ⟨g,trivial⟩
  ·exact .inr ⟨g,by omega⟩
 have hne:=zvl (k_:=s.kind) (by omega) k9;have k0:¬s.kind=0:=by omega
 have e:i=0∨i=1∨i=2∨i=3:=by omega
 rcases four h1 h4 with⟨a,x⟩|⟨a,b,x⟩|⟨a,b,d,x⟩|⟨a,b,d,f,x⟩<;>subst x<;>rcases e with x|x|x|x<;>subst x
 all_goals first
  | (exfalso;simp at hi;done)
  |skip
 all_goals
  rcases q with⟨g2,g3⟩|⟨g2,g3⟩
 all_goals
  refine Ct.B Tryz.func16 mixed 9999 400 ?_;simp;refine CI.cc [0,1,2,3,4,5] (zfh c p lost _ h1 h4) Tryz.call11 9999 ?_;simp;refine CI.p (zvp s.kind (by omega) k9) Tryz.call39 9999 ?_;simp;simp[hne];refine CI.cc [0,1] (znw 1 c p lost s.kind k0 k6) Tryz.call40 9999 ?_;simp;refine CI.cc [0,1,2,3,4,5] (zpe c p lost _ s.side _ hs hi h4) Tryz.call31 9999 ?_;simp;simp[g1,g2,g3];first| (refine⟨[],?_,?_,?_,?_,?_,?_,?_⟩<;>simp[nmF,inB,outE,zAns];done)| (refine⟨by decide+kernel,?_⟩;refine⟨[],?_,?_,?_,?_,?_,?_,?_⟩<;>simp[nmF,inB,outE,zAns])
attribute [simp] Tryz.ntmps69 Tryz.results69
theorem qta (s:MStep)(c:Cfg)(p q:Store)(l0 l1:Int)(a1 b1:List D)(e1:Int)(hP:CtJ errG Tryz.prog 105 [st (zbf p),lst (s.adds.map resC),lst (s.gone.map keyC)] [] [] (.tup [st (zbf q),int 0]) [])(hq:q.hist.length≤1000000)(P1:Ct Tryz.prog 106 [.ptr 0 0,.ptr 1 0] [] [zau c q l0 2,ndB 1 a1] (int e1) [zau c q l1 2,ndB 1 b1]):CtJ errG Tryz.prog 69 [.ptr 0 0,st (mstepC s)] [] (BC c p l0 [a1]) (st (zam ⟨e1,nowI q,zAns,[],[]⟩)) (BC c q l1 [b1]):=by
 refine CtJ.B errK Tryz.func69 mixed 9999 400 ?_;simp;refine CI.j [] hP Tryz.call105 9999 ?_;simp;refine⟨by decide+kernel,?_⟩;refine CI.p (zsu q hq) Tryz.call24 9999 ?_;simp;refine LoopI.rounds 2 ?_;refine RoundsI.step mixed rfl ?_;refine CI.run 9999 400 rfl ?_;simp;refine CI.cc [0,2,1] P1 Tryz.call106 9999 ?_;simp;all_goals
  refine RoundsI.step mixed rfl ?_;refine CI.run 9999 400 rfl ?_;simp;first| (refine⟨[],?_,?_,?_,?_,?_,?_,?_⟩<;>simp[nmF,inB,nowI,zAns];done)| (refine⟨by decide+kernel,?_⟩;refine⟨[],?_,?_,?_,?_,?_,?_,?_⟩<;>simp[nmF,inB,nowI,zAns])
theorem qs9 (s:MStep)(c:Cfg)(p q:Store)(l0 l1 l2:Int)(a1 b1 a2 b2:List D)(e1 e2:Int)(hP:CtJ errG Tryz.prog 105 [st (zbf p),lst (s.adds.map resC),lst (s.gone.map keyC)] [] [] (.tup [st (zbf q),int 0]) [])(hq:q.hist.length≤1000000)(P1:Ct Tryz.prog 106 [.ptr 0 0,.ptr 1 0] [] [zau c q l0 2,ndB 1 a1] (int e1) [zau c q l1 2,ndB 1 b1])(P2:Ct Tryz.prog 106 [.ptr 0 0,.ptr 1 0] [] [zau c q l1 2,ndB 1 a2] (int e2) [zau c q l2 2,ndB 1 b2]):CtJ errG Tryz.prog 69 [.ptr 0 0,st (mstepC s)] [] (BC c p l0 [a1,a2]) (st (zam ⟨if e1=0 then e2 else e1,nowI q,zAns,[],[]⟩)) (BC c q l2 [b1,b2]):=by
 refine CtJ.B errK Tryz.func69 mixed 9999 400 ?_;simp;refine CI.j [] hP Tryz.call105 9999 ?_;simp;refine⟨by decide+kernel,?_⟩;refine CI.p (zsu q hq) Tryz.call24 9999 ?_;simp;refine LoopI.rounds 3 ?_;refine RoundsI.step mixed rfl ?_;refine CI.run 9999 400 rfl ?_;simp;refine CI.cc [0,2,1] P1 Tryz.call106 9999 ?_;simp;all_goals
  refine RoundsI.step mixed rfl ?_;refine CI.run 9999 400 rfl ?_;simp;refine CI.cc [0,3,1] P2 Tryz.call106 9999 ?_;simp
 all_goals
  by_cases g2:e1=0
 all_goals
  simp[g2]
 all_goals
  refine RoundsI.step mixed rfl ?_;refine CI.run 9999 400 rfl ?_;simp;first| (refine⟨[],?_,?_,?_,?_,?_,?_,?_⟩<;>simp[nmF,inB,nowI,zAns,g2];done)| (refine⟨by decide+kernel,?_⟩;refine⟨[],?_,?_,?_,?_,?_,?_,?_⟩<;>simp[nmF,inB,nowI,zAns,g2])
theorem qs8 (s:MStep)(c:Cfg)(p q:Store)(l0 l1 l2 l3:Int)(a1 b1 a2 b2 a3 b3:List D)(e1 e2 e3:Int)(hP:CtJ errG Tryz.prog 105 [st (zbf p),lst (s.adds.map resC),lst (s.gone.map keyC)] [] [] (.tup [st (zbf q),int 0]) [])(hq:q.hist.length≤1000000)(P1:Ct Tryz.prog 106 [.ptr 0 0,.ptr 1 0] [] [zau c q l0 2,ndB 1 a1] (int e1) [zau c q l1 2,ndB 1 b1])(P2:Ct Tryz.prog 106 [.ptr 0 0,.ptr 1 0] [] [zau c q l1 2,ndB 1 a2] (int e2) [zau c q l2 2,ndB 1 b2])(P3:Ct Tryz.prog 106 [.ptr 0 0,.ptr 1 0] [] [zau c q l2 2,ndB 1 a3] (int e3) [zau c q l3 2,ndB 1 b3]):CtJ errG Tryz.prog 69 [.ptr 0 0,st (mstepC s)] [] (BC c p l0 [a1,a2,a3]) (st (zam ⟨if(if e1=0 then e2 else e1)=0 then e3 else(if e1=0 then e2 else e1),nowI q,zAns,[],[]⟩)) (BC c q l3 [b1,b2,b3]):=by
 refine CtJ.B errK Tryz.func69 mixed 9999 400 ?_;simp;refine CI.j [] hP Tryz.call105 9999 ?_;simp;refine⟨by decide+kernel,?_⟩;refine CI.p (zsu q hq) Tryz.call24 9999 ?_;simp;refine LoopI.rounds 4 ?_;refine RoundsI.step mixed rfl ?_;refine CI.run 9999 400 rfl ?_;simp;refine CI.cc [0,2,1] P1 Tryz.call106 9999 ?_;simp;all_goals
  refine RoundsI.step mixed rfl ?_;refine CI.run 9999 400 rfl ?_;simp;refine CI.cc [0,3,1] P2 Tryz.call106 9999 ?_;simp
 all_goals
  by_cases g2:e1=0
 all_goals
  simp[g2]
 all_goals
  refine RoundsI.step mixed rfl ?_;refine CI.run 9999 400 rfl ?_;simp;refine CI.cc [0,4,1] P3 Tryz.call106 9999 ?_;simp
 all_goals
  by_cases g3:e2=0
 all_goals
  simp[g2,g3]
 all_goals
  refine RoundsI.step mixed rfl ?_;refine CI.run 9999 400 rfl ?_;simp;first| (refine⟨[],?_,?_,?_,?_,?_,?_,?_⟩<;>simp[nmF,inB,nowI,zAns,g2,g3];done)| (refine⟨by decide+kernel,?_⟩;refine⟨[],?_,?_,?_,?_,?_,?_,?_⟩<;>simp[nmF,inB,nowI,zAns,g2,g3])
theorem qs7 (s:MStep)(c:Cfg)(p q:Store)(l0 l1 l2 l3 l4:Int)(a1 b1 a2 b2 a3 b3 a4 b4:List D)(e1 e2 e3 e4:Int)(hP:CtJ errG Tryz.prog 105 [st (zbf p),lst (s.adds.map resC),lst (s.gone.map keyC)] [] [] (.tup [st (zbf q),int 0]) [])(hq:q.hist.length≤1000000)(P1:Ct Tryz.prog 106 [.ptr 0 0,.ptr 1 0] [] [zau c q l0 2,ndB 1 a1] (int e1) [zau c q l1 2,ndB 1 b1])(P2:Ct Tryz.prog 106 [.ptr 0 0,.ptr 1 0] [] [zau c q l1 2,ndB 1 a2] (int e2) [zau c q l2 2,ndB 1 b2])(P3:Ct Tryz.prog 106 [.ptr 0 0,.ptr 1 0] [] [zau c q l2 2,ndB 1 a3] (int e3) [zau c q l3 2,ndB 1 b3])(P4:Ct Tryz.prog 106 [.ptr 0 0,.ptr 1 0] [] [zau c q l3 2,ndB 1 a4] (int e4) [zau c q l4 2,ndB 1 b4]):CtJ errG Tryz.prog 69 [.ptr 0 0,st (mstepC s)] [] (BC c p l0 [a1,a2,a3,a4]) (st (zam ⟨if(if(if e1=0 then e2 else e1)=0 then e3 else(if e1=0 then e2 else e1))=0 then e4 else(if(if e1=0 then e2 else e1)=0 then e3 else(if e1=0 then e2 else e1)),nowI q,zAns,[],[]⟩)) (BC c q l4 [b1,b2,b3,b4]):=by
 refine CtJ.B errK Tryz.func69 mixed 9999 400 ?_;simp;refine CI.j [] hP Tryz.call105 9999 ?_;simp;refine⟨by decide+kernel,?_⟩;refine CI.p (zsu q hq) Tryz.call24 9999 ?_;simp;refine LoopI.rounds 5 ?_;refine RoundsI.step mixed rfl ?_;refine CI.run 9999 400 rfl ?_;simp;refine CI.cc [0,2,1] P1 Tryz.call106 9999 ?_;simp;all_goals
  refine RoundsI.step mixed rfl ?_;refine CI.run 9999 400 rfl ?_;simp;refine CI.cc [0,3,1] P2 Tryz.call106 9999 ?_;simp
 all_goals
  by_cases g2:e1=0
 all_goals
  simp[g2]
 all_goals
  refine RoundsI.step mixed rfl ?_;refine CI.run 9999 400 rfl ?_;simp;refine CI.cc [0,4,1] P3 Tryz.call106 9999 ?_;simp
 all_goals
  by_cases g3:e2=0
 all_goals
  simp[g2,g3]
 all_goals
  refine RoundsI.step mixed rfl ?_;refine CI.run 9999 400 rfl ?_;simp;refine CI.cc [0,5,1] P4 Tryz.call106 9999 ?_;simp
 all_goals
  by_cases g4:e3=0
 all_goals
  simp[g2,g3,g4]
 all_goals
  refine RoundsI.step mixed rfl ?_;refine CI.run 9999 400 rfl ?_;simp;first| (refine⟨[],?_,?_,?_,?_,?_,?_,?_⟩<;>simp[nmF,inB,nowI,zAns,g2,g3,g4];done)| (refine⟨by decide+kernel,?_⟩;refine⟨[],?_,?_,?_,?_,?_,?_,?_⟩<;>simp[nmF,inB,nowI,zAns,g2,g3,g4])
end Go.Proofs.YtekckhepcdndcaaGreatDoor
