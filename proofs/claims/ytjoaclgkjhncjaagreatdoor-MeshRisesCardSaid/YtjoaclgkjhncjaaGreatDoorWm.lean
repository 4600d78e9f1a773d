/-
  LAYER 24: the walks of a side, and of a step that it takes in a mesh of one to four.
-/
import Derived.Test.YtjoaclgkjhncjaaGreatDoorWl
import Derived.Test.YtjoaclgkjhncjaaGreatDoorWk
import Derived.Test.YtjoaclgkjhncjaaGreatDoorWi
import Derived.Test.YtjoaclgkjhncjaaGreatDoorWf
import Derived.Test.YtjoaclgkjhncjaaGreatDoorPq
import Derived.Test.YtjoaclgkjhncjaaGreatDoorFd
set_option linter.unusedSimpArgs false
set_option linter.unusedVariables false
namespace Go.Proofs.YtjoaclgkjhncjaaGreatDoor
open Go.AI Go.G
set_option maxRecDepth 20000
theorem qq0 (l:FLk)(f:G.Frame)(h:OkL l)(he:za4 f=0):Ct Tryz.prog 123 [st (flkC l),lst ((zio f).map byteC)] [] [] (.tup [st (flkC (zie l f).1),int (zie l f).2]) []:=by
 obtain⟨x,b,e⟩:=List.exists_cons_of_ne_nil (qaq f);have hl:=zvd he;have:=qgj (rlk l) x b h.lk (by rw[←e];omega);rw[←e,zhv]at this;rw[←zhv,←zhv]at*;have hs:ztj (rlk l) (zio f)=(rlk (zie l f).1,(zie l f).2):=by
  unfold ztj zie;rw[h.sound,if_neg (by simp[he])];by_cases hq:32≤l.q.length
  ·rw[if_pos hq,zmp (by simpa[rlk]using hq)]
  ·rw[if_neg hq,zjb (by simpa[rlk]using hq)];simp[rlk]
 rw[hs]at this;exact this
theorem qfm (l:FLk)(i:Int)(h:OkL l):Ct Tryz.prog 116 [st (flkC l),int i] [] [] (.tup [st (flkC (zaw l i).1),lst ((if l.q=[]then []else zio (zaw l i).2.1).map byteC),int (zaw l i).2.2]) []:=by
 have:=qfl (rlk l) i h.lk;rw[zo9 h]at this;simpa only[zhv]using this
theorem qs6 (l:FLk)(i:Int)(h:OkL l):Ct Tryz.prog 78 [st (flkC l),int i] [] [] (.tup [st (flkC (zoe l i).1),int (zoe l i).2]) []:=by
 have:=qw3 (rlk l) i h.lk;rw[qjs h]at this;simpa only[zhv]using this
theorem qob (l:FLk)(i:Int)(h:OkL l):Ct Tryz.prog 79 [st (flkC l),int i] [] [] (.tup [st (flkC (zgu l i).1),int (zgu l i).2]) []:=by
 have:=qt2 (rlk l) i h.lk;rw[qe7 h]at this;simpa only[zhv]using this
theorem qsi (l:FLk)(i:Int)(h:OkL l):Ct Tryz.prog 80 [st (flkC l),int i] [] [] (.tup [st (flkC (zls l i).1),int (zls l i).2]) []:=by
 have:=qwa (rlk l) i h.lk;rw[qiq h]at this;simpa only[zhv]using this
theorem zk6 (l:FLk)(h:OkL l):Ct Tryz.prog 189 [st (flkC l)] [] [] (.tup [st (flkC (if l.epoch=2147483647 then l else⟨l.epoch+1,[]⟩)),int (if l.epoch=2147483647 then 14 else 0)]) []:=by
 have:=qq8 (rlk l) h.lk.len;unfold qba at this;rw[h.sound]at this;simp only[zhv]at this;by_cases he:l.epoch=2147483647
 ·rw[if_pos (show(rlk l).epoch=2147483647 from he),zhv]at this;simpa only[if_pos he]using this
 ·rw[if_neg (show¬(rlk l).epoch=2147483647 from he)]at this;simp only[if_neg he];have e:rlkC ⟨(rlk l).epoch+1,[]⟩=flkC ⟨l.epoch+1,[]⟩:=rfl;rw[e]at this;exact this
attribute [simp] Tryz.ntmps176 Tryz.results176
theorem qoo (l:FLk)(f:G.Frame)(h:OkL l)(hf:OkFrame f):Ct Tryz.prog 176 [st (flkC l),st (zam f)] [] [] (.tup [st (flkC (zie l f).1),int (zie l f).2]) []:=by
 refine Ct.B Tryz.func176 mixed 9999 400 ?_;simp;by_cases he:za4 f=0
 ·have hl:=zoo (frameE_zero.1 he);refine CI.p (qx1 f he) Tryz.call227 9999 ?_;simp;refine CI.p (qua (putB f) (by omega)) Tryz.call228 9999 ?_;simp;refine CI.p (qq0 l f h he) Tryz.call123 9999 ?_ (ha:=by simp[zio]);simp[zio];first|exact fin0 (by simp) rfl|exact zaa (by simp)
 ·refine CI.p (qu8 f hf he) Tryz.call227 9999 ?_;simp;simp[he];first|exact fin0 (by simp[zie,he]) rfl|exact zaa (by simp[zie,he])
abbrev zb0 (c:Cfg)(p:Store)(lost:Int)(v:Value):Nat×Blk:=(0,.cells [int c.sides,int c.cap,int c.limit,int c.max,int p.cap,lst (p.hist.map rsC),.d (.v v),int lost] 108)
abbrev zax (c:Cfg)(p:Store)(lost:Int)(b:Nat):Nat×Blk:=(0,.cells [int c.sides,int c.cap,int c.limit,int c.max,int p.cap,lst (p.hist.map rsC),.own b,int lost] 108)
abbrev zcl (n:G.Node):Nat×Blk:=(1,.cells ((zcm n).map .d) 120)
attribute [simp] Tryz.ntmps115 Tryz.results115
theorem zy3 (v:Value)(c:Cfg)(p:Store)(lost:Int)(n:G.Node)(l:List G.Frame)(hn:OkL n.up)(hf:∀f∈l,OkFrame f)(hl:l.length≤1000)(h0:0≤lost)(h1:lost≤1000000000000):Ct Tryz.prog 115 [.ptr 0 0,.ptr 1 0,int 0,lst (l.map zam)] [] [zb0 c p lost v,zcl n] (.tup []) [zb0 c p (za1 n.up lost l).2 v,zcl {n with up:=(za1 n.up lost l).1}]:=by
 refine Ct.B Tryz.func115 mixed 9999 400 ?_;simp;refine LoopI.U mixed (l) (fun k=>[(0,.ptr 0 0),(1,.ptr 1 0),(2,int 0),(12,lst (l.map zam)),(13,int l.length),(14,int k.1)]) (fun k=>[zb0 c p ((l.take k.1).foldl zar (n.up,lost)).2 v,zcl {n with up:=((l.take k.1).foldl zar (n.up,lost)).1}]) 64 [] (by constructor<;>simp) ?_;rintro⟨k,hk1⟩ B hB;refine CI.run 9999 400 rfl ?_;simp;refine sBI (fun h=>?_) (fun h=>?_)
 ·have hk:k<(l).length:=by simpa using h
  obtain⟨f,hx,hr,hm,ht,hd⟩:=inL hk;have hw:=wr (k:=k) (by omega);simp only[h];simp[hr,hw];have hz:=zpn (l.take k) (z:=(n.up,lost)) hn;have hlen:(l.take k).length≤1000:=by simp;omega
  have ht2:(l.take (k+1)).foldl zar (n.up,lost)=zar ((l.take k).foldl zar (n.up,lost)) f:=by rw[ht,List.foldl_append];rfl
  generalize(l.take k).foldl zar (n.up,lost)=z at hz ht2⊢;refine CI.p (qoo z.1 f hz.1 (hf f hm)) Tryz.call176 9999 ?_;simp;refine⟨by decide+kernel,?_⟩;have w1:IntKind.wrap .i64 (z.2+1)=z.2+1:=zab (by simp only at hz;omega) (by simp only at hz;omega);by_cases h2:(zie z.1 f).2=0
  ·have e:zar z f=((zie z.1 f).1,z.2):=if_pos h2;rw[e]at ht2;simp[h2];refine⟨by decide+kernel,?_⟩;refine hB _ ⟨k+1,by omega⟩ [] ?_ (by simp;omega);constructor<;>simp[hw,ht2]
  ·have e:zar z f=(z.1,z.2+1):=if_neg h2;rw[e]at ht2;simp[h2,w1];refine hB _ ⟨k+1,by omega⟩ [] ?_ (by simp;omega);constructor<;>simp[hw,ht2]
 ·have hkl:k=(l).length:=by simp at h;omega
  subst hkl;simp only[h];simp[List.take_length,List.drop_length];first| (refine⟨[],?_,?_,?_,?_,?_,?_,?_⟩<;>simp[nmF,inB,za1];done)| (refine⟨by decide+kernel,?_⟩;refine⟨[],?_,?_,?_,?_,?_,?_,?_⟩<;>simp[nmF,inB,za1])
theorem qgl (v:Value)(c:Cfg)(p:Store)(lost:Int)(n:G.Node)(l:List G.Frame)(hn:OkL n.dn)(hf:∀f∈l,OkFrame f)(hl:l.length≤1000)(h0:0≤lost)(h1:lost≤1000000000000):Ct Tryz.prog 115 [.ptr 0 0,.ptr 1 0,int 1,lst (l.map zam)] [] [zb0 c p lost v,zcl n] (.tup []) [zb0 c p (za1 n.dn lost l).2 v,zcl {n with dn:=(za1 n.dn lost l).1}]:=by
 refine Ct.B Tryz.func115 mixed 9999 400 ?_;simp;refine LoopI.U mixed (l) (fun k=>[(0,.ptr 0 0),(1,.ptr 1 0),(2,int 1),(12,lst (l.map zam)),(13,int l.length),(14,int k.1)]) (fun k=>[zb0 c p ((l.take k.1).foldl zar (n.dn,lost)).2 v,zcl {n with dn:=((l.take k.1).foldl zar (n.dn,lost)).1}]) 64 [] (by constructor<;>simp) ?_;rintro⟨k,hk1⟩ B hB;refine CI.run 9999 400 rfl ?_;simp;refine sBI (fun h=>?_) (fun h=>?_)
 ·have hk:k<(l).length:=by simpa using h
  obtain⟨f,hx,hr,hm,ht,hd⟩:=inL hk;have hw:=wr (k:=k) (by omega);simp only[h];simp[hr,hw];have hz:=zpn (l.take k) (z:=(n.dn,lost)) hn;have hlen:(l.take k).length≤1000:=by simp;omega
  have ht2:(l.take (k+1)).foldl zar (n.dn,lost)=zar ((l.take k).foldl zar (n.dn,lost)) f:=by rw[ht,List.foldl_append];rfl
  generalize(l.take k).foldl zar (n.dn,lost)=z at hz ht2⊢;refine CI.p (qoo z.1 f hz.1 (hf f hm)) Tryz.call176 9999 ?_;simp;refine⟨by decide+kernel,?_⟩;have w1:IntKind.wrap .i64 (z.2+1)=z.2+1:=zab (by simp only at hz;omega) (by simp only at hz;omega);by_cases h2:(zie z.1 f).2=0
  ·have e:zar z f=((zie z.1 f).1,z.2):=if_pos h2;rw[e]at ht2;simp[h2];refine⟨by decide+kernel,?_⟩;refine hB _ ⟨k+1,by omega⟩ [] ?_ (by simp;omega);constructor<;>simp[hw,ht2]
  ·have e:zar z f=(z.1,z.2+1):=if_neg h2;rw[e]at ht2;simp[h2,w1];refine hB _ ⟨k+1,by omega⟩ [] ?_ (by simp;omega);constructor<;>simp[hw,ht2]
 ·have hkl:k=(l).length:=by simp at h;omega
  subst hkl;simp only[h];simp[List.take_length,List.drop_length];first| (refine⟨[],?_,?_,?_,?_,?_,?_,?_⟩<;>simp[nmF,inB,za1];done)| (refine⟨by decide+kernel,?_⟩;refine⟨[],?_,?_,?_,?_,?_,?_,?_⟩<;>simp[nmF,inB,za1])
attribute [simp] Tryz.ntmps124 Tryz.results124
theorem qg4 (v:Value)(c:Cfg)(p:Store)(lost:Int)(n:G.Node)(hn:OkN n)(h0:0≤lost)(h1:lost≤100000000000):Ct Tryz.prog 124 [.ptr 0 0,.ptr 1 0] [] [zb0 c p lost v,zcl n] (int (za6 c.max lost n).2.2) [zb0 c p (za6 c.max lost n).2.1 v,zcl (za6 c.max lost n).1]:=by
 refine Ct.B Tryz.func124 mixed 9999 400 ?_;simp;by_cases h2:n.up.epoch=2147483647
 ·have e:za6 c.max lost n=(n,lost,14):=if_pos (.inl h2);rw[e];refine LoopI.unroll mixed (Plain.retC _ _ _ _ _) rfl ?_;refine CI.run 9999 400 rfl ?_;simp;refine CI.p (zk6 n.up hn.up) Tryz.call189 9999 ?_;simp;simp[h2];first| (refine⟨[],?_,?_,?_,?_,?_,?_,?_⟩<;>simp[nmF,inB,h2];done)| (refine⟨by decide+kernel,?_⟩;refine⟨[],?_,?_,?_,?_,?_,?_,?_⟩<;>simp[nmF,inB,h2])
 by_cases h3:n.dn.epoch=2147483647
 ·have e:za6 c.max lost n=(n,lost,14):=if_pos (.inr h3);rw[e];refine LoopI.unroll mixed (Plain.retC _ _ _ _ _) rfl ?_;refine CI.run 9999 400 rfl ?_;simp;refine CI.p (zk6 n.up hn.up) Tryz.call189 9999 ?_;simp;simp[h2];refine LoopI.unroll mixed (Plain.retC _ _ _ _ _) rfl ?_;refine CI.run 9999 400 rfl ?_;simp;refine CI.p (zk6 n.dn hn.dn) Tryz.call189 9999 ?_;simp;simp[h3];first| (refine⟨[],?_,?_,?_,?_,?_,?_,?_⟩<;>simp[nmF,inB,h3];done)| (refine⟨by decide+kernel,?_⟩;refine⟨[],?_,?_,?_,?_,?_,?_,?_⟩<;>simp[nmF,inB,h3])
 have cc:=hn.d.connect (n.up.epoch+1);have e:za6 c.max lost n=(⟨(zao n.side (n.up.epoch+1)).1,zcs (n.up.epoch+1) c.max,(za1 ⟨n.up.epoch+1,[]⟩ lost (zao n.side (n.up.epoch+1)).2.1).1,⟨n.dn.epoch+1,[]⟩,n.pool⟩,(za1 ⟨n.up.epoch+1,[]⟩ lost (zao n.side (n.up.epoch+1)).2.1).2,(zao n.side (n.up.epoch+1)).2.2):=if_neg (by omega);rw[e];have up:=hn.up.fresh h2;refine LoopI.unroll mixed (Plain.retC _ _ _ _ _) rfl ?_;refine CI.run 9999 400 rfl ?_;simp;refine CI.p (zk6 n.up hn.up) Tryz.call189 9999 ?_;simp;simp[h2];refine LoopI.unroll mixed (Plain.retC _ _ _ _ _) rfl ?_;refine CI.run 9999 400 rfl ?_;simp;refine CI.p (zk6 n.dn hn.dn) Tryz.call189 9999 ?_;simp;simp[h3];refine LoopI.unroll mixed (Plain.retC _ _ _ _ _) rfl ?_;refine CI.run 9999 400 rfl ?_;simp;refine CI.p (zci (n.up.epoch+1) c.max) Tryz.call34 9999 ?_;simp;refine CI.p (qj1 n.side (n.up.epoch+1) hn.d.x) Tryz.call190 9999 ?_;simp;generalize zao n.side (n.up.epoch+1)=X at cc⊢;refine CI.cc [0,1] (zy3 v c p lost ⟨X.1,zcs (n.up.epoch+1) c.max,⟨n.up.epoch+1,[]⟩,⟨n.dn.epoch+1,[]⟩,n.pool⟩ X.2.1 up cc.2.1 (by omega) h0 (by omega)) Tryz.call115 9999 ?_;simp;first| (refine⟨[],?_,?_,?_,?_,?_,?_,?_⟩<;>simp[nmF,inB];done)| (refine⟨by decide+kernel,?_⟩;refine⟨[],?_,?_,?_,?_,?_,?_,?_⟩<;>simp[nmF,inB])
attribute [simp] Tryz.ntmps113 Tryz.results113
theorem qop (v:Value)(c:Cfg)(p:Store)(lost:Int)(n:G.Node)(hn:OkN n)(hp:sanS p=true)(h0:0≤lost)(h1:lost≤10000000000):Ct Tryz.prog 113 [.ptr 0 0,.ptr 1 0] [] [zb0 c p lost v,zcl n] (int (zc9 c.max p lost n).2.2) [zb0 c p (zc9 c.max p lost n).2.1 v,zcl (zc9 c.max p lost n).1]:=by
 refine Ct.B Tryz.func113 mixed 9999 400 ?_;simp;have S:=saneS_iff.1 hn.ss;have hpl:p.hist.length≤100000:=((zcd p).1 hp).2.1;refine CI.p (qva n.sess p hn.so (by have:=S.hl;omega) (by omega) (fun _=>⟨zcc (zp8 hp),by have:=tab_len (zp8 hp);omega⟩)) Tryz.call175 9999 ?_;simp;refine⟨by decide+kernel,?_⟩;obtain⟨p1,p2,p3,p4,p5⟩:=zop hn.ss hn.so hp;unfold zc9;dsimp only;generalize pump n.sess p=R at p1 p2 p3 p4⊢;have l:=zf6 hn.dn lost R.2.1;refine CI.cc [0,1] (qgl v c p lost {n with sess:=R.1} R.2.1 hn.dn (fun f hf=>zf5 (p3 f hf).1) (by omega) h0 (by omega)) Tryz.call115 9999 ?_;simp;have hm:OkN {n with sess:=R.1,dn:=(za1 n.dn lost R.2.1).1}:=⟨hn.d,p1,p2,hn.up,hn.dn.send _ _,hn.pl⟩;generalize za1 n.dn lost R.2.1=z at l hm⊢;refine sBI (fun h2=>?_) (fun h2=>?_)<;>simp only[h2]<;>simp<;>(try simp only[nT,nF,dT,dF]at h2)
 ·refine CI.cc [0,1] (qg4 v c p z.2 {n with sess:=R.1,dn:=z.1} hm (by omega) (by omega)) Tryz.call124 9999 ?_;simp;first| (refine⟨[],?_,?_,?_,?_,?_,?_,?_⟩<;>simp[nmF,inB,h2];done)| (refine⟨by decide+kernel,?_⟩;refine⟨[],?_,?_,?_,?_,?_,?_,?_⟩<;>simp[nmF,inB,h2])
 ·first| (refine⟨[],?_,?_,?_,?_,?_,?_,?_⟩<;>simp[nmF,inB,h2];done)| (refine⟨by decide+kernel,?_⟩;refine⟨[],?_,?_,?_,?_,?_,?_,?_⟩<;>simp[nmF,inB,h2])
theorem zj2 (b:Nat)(c:Cfg)(p:Store)(lost:Int)(n:G.Node)(hn:OkN n)(hp:sanS p=true)(h0:0≤lost)(h1:lost≤10000000000):Ct Tryz.prog 113 [.ptr 0 0,.ptr 1 0] [] [zax c p lost b,zcl n] (int (zc9 c.max p lost n).2.2) [zax c p (zc9 c.max p lost n).2.1 b,zcl (zc9 c.max p lost n).1]:=
 Ct.hide (mr:=[]) (pre:=[int c.sides,int c.cap,int c.limit,int c.max,int p.cap,lst (p.hist.map rsC)]) (pre':=[int c.sides,int c.cap,int c.limit,int c.max,int p.cap,lst (p.hist.map rsC)]) rfl fun v=>qop v c p lost n hn hp h0 h1
attribute [simp] Tryz.ntmps117 Tryz.results117
theorem qwm (f:G.Frame)(he:za4 f=0):Ct Tryz.prog 117 [lst ((zio f).map byteC)] [] [] (.tup [st (zam f),int 0]) []:=by
 refine Ct.B Tryz.func117 mixed 9999 400 ?_;simp;have hl:=zoo (frameE_zero.1 he);obtain⟨x,b,e⟩:=List.exists_cons_of_ne_nil (qrb f);have et:zio f=zn2 (x::b):=by rw[←e];rfl
 rw[et];refine CI.p (qv2 x b (by rw[←e];omega)) Tryz.call178 9999 ?_;simp;have eb:(x::b).map byteC=(putB f).map byteC:=by rw[e]
 refine CI.p (qye f he) Tryz.call179 9999 ?_ (ha:=by simp[←eb]);simp[←eb];first|exact fin0 (by simp) rfl|exact zaa (by simp)
attribute [simp] Tryz.ntmps66 Tryz.results66
theorem qwi (n:G.Node)(hn:OkN n):Ct Tryz.prog 66 [.ptr 0 0] [(0,.cells ((zcm n).map .d) 120)] [] (bool (decide (n.up.q.length+n.dn.q.length+n.pool.tasks.length=0))) []:=by
 refine Ct.B Tryz.func66 mixed 9999 400 ?_;simp;have l1:=hn.up.len;have l2:=hn.dn.len;have l3:=hn.pl.p.lt;have w1:IntKind.wrap .i64 ((n.up.q.length:Int)+n.dn.q.length)=(n.up.q.length:Int)+n.dn.q.length:=zab (by omega) (by omega);have w2:IntKind.wrap .i64 ((n.up.q.length:Int)+n.dn.q.length+n.pool.tasks.length)=(n.up.q.length:Int)+n.dn.q.length+n.pool.tasks.length:=zab (by omega) (by omega);have e:(decide ((n.up.q.length:Int)+n.dn.q.length+n.pool.tasks.length=0))=decide (n.up.q.length+n.dn.q.length+n.pool.tasks.length=0):=decide_eq_decide.2 (by omega);simp[w1,w2,e];refine⟨by decide+kernel,?_⟩;first| (refine⟨[],?_,?_,?_,?_,?_,?_,?_⟩<;>simp[nmF,inB];done)| (refine⟨by decide+kernel,?_⟩;refine⟨[],?_,?_,?_,?_,?_,?_,?_⟩<;>simp[nmF,inB])
attribute [simp] Tryz.ntmps82 Tryz.results82
theorem qtr (v:Value)(c:Cfg)(p:Store)(lost:Int)(n:G.Node)(s:MStep)(hn:OkN n):Ct Tryz.prog 82 [.ptr 0 0,.ptr 1 0,st (zaf s)] [] [zb0 c p lost v,zcl n] (st (zb9 (zfj lost n s).2.2)) [zb0 c p (zfj lost n s).2.1 v,zcl (zfj lost n s).1]:=by
 refine Ct.B Tryz.func82 mixed 9999 400 ?_;simp;refine CI.p (qqi n.pool s.a hn.pl.p) Tryz.call125 9999 ?_;simp;refine⟨by decide+kernel,?_⟩;first| (refine⟨[],?_,?_,?_,?_,?_,?_,?_⟩<;>simp[nmF,inB,zfj,zAns];done)| (refine⟨by decide+kernel,?_⟩;refine⟨[],?_,?_,?_,?_,?_,?_,?_⟩<;>simp[nmF,inB,zfj,zAns])
attribute [simp] Tryz.ntmps81 Tryz.results81
theorem qt1 (v:Value)(c:Cfg)(p:Store)(lost:Int)(n:G.Node)(s:MStep)(hn:OkN n)(h0:0≤lost)(h1:lost≤10000000000):Ct Tryz.prog 81 [.ptr 0 0,.ptr 1 0,st (zaf s)] [] [zb0 c p lost v,zcl n] (st (zb9 (outE (za6 c.max lost n).2.2))) [zb0 c p (za6 c.max lost n).2.1 v,zcl (za6 c.max lost n).1]:=by
 refine Ct.B Tryz.func81 mixed 9999 400 ?_;simp;refine CI.cc [0,1] (qg4 v c p lost n hn h0 (by omega)) Tryz.call124 9999 ?_;simp;first| (refine⟨[],?_,?_,?_,?_,?_,?_,?_⟩<;>simp[nmF,inB,outE,zAns];done)| (refine⟨by decide+kernel,?_⟩;refine⟨[],?_,?_,?_,?_,?_,?_,?_⟩<;>simp[nmF,inB,outE,zAns])
end Go.Proofs.YtjoaclgkjhncjaaGreatDoor
namespace Go.Proofs.YtjoaclgkjhncjaaGreatDoor
open Go.AI Go.G
set_option maxRecDepth 20000
attribute [simp] Tryz.ntmps76 Tryz.results76
theorem qn2 (v:Value)(c:Cfg)(p:Store)(lost:Int)(n:G.Node)(s:MStep)(hn:OkN n)(hp:sanS p=true)(hw:s.way=0)(h0:0≤lost)(h1:lost≤1000000000):Ct Tryz.prog 76 [.ptr 0 0,.ptr 1 0,st (zaf s)] [] [zb0 c p lost v,zcl n] (st (zb9 (zck c.max p lost n s).2.2)) [zb0 c p (zck c.max p lost n s).2.1 v,zcl (zck c.max p lost n s).1]:=by
 refine Ct.B Tryz.func76 mixed 9999 400 ?_;simp;have ht:=hn.up.take s.n;have e0:wayN n s.way=n.up:=if_pos hw;have e1:∀l,setW n s.way l={n with up:=l}:=fun l=>if_pos hw;have hne:(zaw n.up s.n).2.2=0→n.up.q≠[]:=zs5;unfold zck;rw[e0];dsimp only;rw[e1];simp[hw];refine CI.p (qfm n.up s.n hn.up) Tryz.call116 9999 ?_;simp;refine⟨by decide+kernel,?_⟩;refine⟨by decide+kernel,?_⟩;generalize zaw n.up s.n=t at ht hne⊢;by_cases h2:t.2.2=0
 ·have hq:=hne h2;simp[h2,hw];refine CI.p (qwm t.2.1 (ht.2 h2)) Tryz.call117 9999 ?_ (ha:=by simp[hq]);simp[hq];have S:=saneS_iff.1 hn.ss;have hpl:p.hist.length≤100000:=((zcd p).1 hp).2.1;refine CI.p (qi9 n.sess p t.2.1 (by have:=S.dl;omega) hn.so.v.push (by have:=S.hl;omega) (zf5 (ht.2 h2)) (ok_store hp) (by omega)) Tryz.call119 9999 ?_;simp;refine⟨by decide+kernel,?_⟩;have k1:=zek p t.2.1 hn.ss;have k2:=zjk t.2.1 hn.ss hn.so hp;generalize handle n.sess p t.2.1=r at k1 k2⊢;by_cases h3:r.2=0
  ·simp[h3];refine CI.cc [0,1] (qop v c p lost {n with up:=t.1,sess:=r.1} ⟨hn.d,k1,k2,ht.1,hn.dn,hn.pl⟩ hp h0 (by omega)) Tryz.call113 9999 ?_;simp;first| (refine⟨[],?_,?_,?_,?_,?_,?_,?_⟩<;>simp[nmF,inB,h3,outE,zAns];done)| (refine⟨by decide+kernel,?_⟩;refine⟨[],?_,?_,?_,?_,?_,?_,?_⟩<;>simp[nmF,inB,h3,outE,zAns])
  ·simp[h3];first| (refine⟨[],?_,?_,?_,?_,?_,?_,?_⟩<;>simp[nmF,inB,h3,outE,zAns];done)| (refine⟨by decide+kernel,?_⟩;refine⟨[],?_,?_,?_,?_,?_,?_,?_⟩<;>simp[nmF,inB,h3,outE,zAns])
 ·simp[h2];first| (refine⟨[],?_,?_,?_,?_,?_,?_,?_⟩<;>simp[nmF,inB,h2,outE,zAns];done)| (refine⟨by decide+kernel,?_⟩;refine⟨[],?_,?_,?_,?_,?_,?_,?_⟩<;>simp[nmF,inB,h2,outE,zAns])
theorem qn1 (v:Value)(c:Cfg)(p:Store)(lost:Int)(n:G.Node)(s:MStep)(hn:OkN n)(hp:sanS p=true)(hw:s.way=1)(h0:0≤lost)(h1:lost≤1000000000):Ct Tryz.prog 76 [.ptr 0 0,.ptr 1 0,st (zaf s)] [] [zb0 c p lost v,zcl n] (st (zb9 (zck c.max p lost n s).2.2)) [zb0 c p (zck c.max p lost n s).2.1 v,zcl (zck c.max p lost n s).1]:=by
 refine Ct.B Tryz.func76 mixed 9999 400 ?_;simp;have ht:=hn.dn.take s.n;have e0:wayN n s.way=n.dn:=if_neg (by omega);have e1:∀l,setW n s.way l={n with dn:=l}:=fun l=>if_neg (by omega)
 have hne:(zaw n.dn s.n).2.2=0→n.dn.q≠[]:=zs5;unfold zck;rw[e0];dsimp only;rw[e1];simp[hw];refine CI.p (qfm n.dn s.n hn.dn) Tryz.call116 9999 ?_;simp;refine⟨by decide+kernel,?_⟩;refine⟨by decide+kernel,?_⟩;generalize zaw n.dn s.n=t at ht hne⊢;by_cases h2:t.2.2=0
 ·have hq:=hne h2;simp[h2,hw];refine CI.p (qwm t.2.1 (ht.2 h2)) Tryz.call117 9999 ?_ (ha:=by simp[hq]);simp[hq];refine CI.p (qqr n.side t.2.1 hn.d.x (zf5 (ht.2 h2))) Tryz.call118 9999 ?_;simp;refine⟨by decide+kernel,?_⟩;have hs:=hn.d.side t.2.1;generalize zea n.side t.2.1=r at hs⊢;refine CI.cc [0,1] (zy3 v c p lost {n with dn:=t.1,side:=r.1} r.2.1 hn.up hs.2.1 (by omega) h0 (by omega)) Tryz.call115 9999 ?_;simp;first| (refine⟨[],?_,?_,?_,?_,?_,?_,?_⟩<;>simp[nmF,inB,outE,zAns];done)| (refine⟨by decide+kernel,?_⟩;refine⟨[],?_,?_,?_,?_,?_,?_,?_⟩<;>simp[nmF,inB,outE,zAns])
 ·simp[h2];first| (refine⟨[],?_,?_,?_,?_,?_,?_,?_⟩<;>simp[nmF,inB,h2,outE,zAns];done)| (refine⟨by decide+kernel,?_⟩;refine⟨[],?_,?_,?_,?_,?_,?_,?_⟩<;>simp[nmF,inB,h2,outE,zAns])
theorem qtg (v:Value)(c:Cfg)(p:Store)(lost:Int)(n:G.Node)(s:MStep)(hn:OkN n)(hp:sanS p=true)(hw:s.way=0∨s.way=1)(h0:0≤lost)(h1:lost≤1000000000):Ct Tryz.prog 76 [.ptr 0 0,.ptr 1 0,st (zaf s)] [] [zb0 c p lost v,zcl n] (st (zb9 (zck c.max p lost n s).2.2)) [zb0 c p (zck c.max p lost n s).2.1 v,zcl (zck c.max p lost n s).1]:=by
 rcases hw with hw|hw
 ·exact qn2 v c p lost n s hn hp hw h0 h1
 ·exact qn1 v c p lost n s hn hp hw h0 h1
attribute [simp] Tryz.ntmps83 Tryz.results83
theorem qwo (v:Value)(c:Cfg)(p:Store)(lost:Int)(n:G.Node)(s:MStep)(hn:OkN n)(h0:0≤lost)(h1:lost≤1000000000):Ct Tryz.prog 83 [.ptr 0 0,.ptr 1 0,st (zaf s)] [] [zb0 c p lost v,zcl n] (st (zb9 (zl0 lost n s).2.2)) [zb0 c p (zl0 lost n s).2.1 v,zcl (zl0 lost n s).1]:=by
 refine Ct.B Tryz.func83 mixed 9999 400 ?_;simp;refine CI.p (qve n.pool n.side s.n hn.pl.p hn.d.x hn.d.n hn.pl.a) Tryz.call126 9999 ?_;simp;refine⟨by decide+kernel,?_⟩;refine⟨by decide+kernel,?_⟩;have hk:=hn.pl.pick hn.d s.n;have hlast:=qhm (p:=n.pool) (s:=n.side) (draw:=s.n);unfold zl0;dsimp only;generalize zei n.pool n.side s.n=r at hk hlast⊢;refine CI.cc [0,1] (zy3 v c p lost {n with pool:=r.1,side:=r.2.1} r.2.2.1 hn.up hk.2.2.1 (by omega) h0 (by omega)) Tryz.call115 9999 ?_;simp;by_cases h2:r.2.2.2=0
 ·by_cases h3:r.1.tasks.length=n.pool.tasks.length
  ·have h3':(r.1.tasks.length:Int)=n.pool.tasks.length:=by omega
   simp[h2,h3'];first| (refine⟨[],?_,?_,?_,?_,?_,?_,?_⟩<;>simp[nmF,inB,h2,h3,outE,zAns];done)| (refine⟨by decide+kernel,?_⟩;refine⟨[],?_,?_,?_,?_,?_,?_,?_⟩<;>simp[nmF,inB,h2,h3,outE,zAns])
  ·have h3':¬(r.1.tasks.length:Int)=n.pool.tasks.length:=by omega
   obtain⟨i,x,e⟩:=hlast h3;have hd:=hk.1.p.ld;rw[e]at hd⊢;have w1:IntKind.wrap .i64 (i.length:Int)=i.length:=zab (by omega) (by simp at hd;omega);have e9:(i.length:Int)<i.length+1:=by omega
   simp[h2,h3',e,w1,e9,qb8];first| (refine⟨[],?_,?_,?_,?_,?_,?_,?_⟩<;>simp[nmF,inB,h2,h3,zAns,e];done)| (refine⟨by decide+kernel,?_⟩;refine⟨[],?_,?_,?_,?_,?_,?_,?_⟩<;>simp[nmF,inB,h2,h3,zAns,e])
 ·simp[h2];first| (refine⟨[],?_,?_,?_,?_,?_,?_,?_⟩<;>simp[nmF,inB,h2,outE,zAns];done)| (refine⟨by decide+kernel,?_⟩;refine⟨[],?_,?_,?_,?_,?_,?_,?_⟩<;>simp[nmF,inB,h2,outE,zAns])
attribute [simp] Tryz.ntmps127 Tryz.results127
theorem qt9 (b:Bool):Ct Tryz.prog 127 [bool b] [] [] (int (yesI b)) []:=by
 refine Ct.B Tryz.func127 mixed 9999 400 ?_;simp;refine sBI (fun h1=>?_) (fun h1=>?_)<;>simp only[h1]<;>simp<;>(try simp only[nT,nF,dT,dF]at h1)
 ·first|exact fin0 (by simp[yesI,h1]) rfl|exact zaa (by simp[yesI,h1])
 ·first|exact fin0 (by simp[yesI,h1]) rfl|exact zaa (by simp[yesI,h1])
attribute [simp] Tryz.ntmps84 Tryz.results84
theorem quk (v:Value)(c:Cfg)(p:Store)(lost:Int)(n:G.Node)(s:MStep)(hn:OkN n)(hp:sanS p=true):Ct Tryz.prog 84 [.ptr 0 0,.ptr 1 0,st (zaf s)] [] [zb0 c p lost v,zcl n] (st (zb9 (zn4 p lost n).2.2)) [zb0 c p lost v,zcl n]:=by
 refine Ct.B Tryz.func84 mixed 9999 400 ?_;simp;have hpl:p.hist.length≤100000:=((zcd p).1 hp).2.1;refine CI.p (ztx p (by omega)) Tryz.call22 9999 ?_;simp;refine CI.p (ztf n.side hn.d.x) Tryz.call14 9999 ?_;simp;have hl:=zvq hn.d.x;refine CI.cc [] (qb2 (((zh9 n.side).map (·.l)).getD []) (by omega)) Tryz.call49 9999 ?_;simp;refine CI.p (qt9 (zh9 n.side).isSome) Tryz.call127 9999 ?_;simp;have S:=saneS_iff.1 hn.ss;refine CI.p (zpl n.sess p hn.so (by have:=S.hl;omega) (by omega)) Tryz.call23 9999 ?_;simp;refine CI.p (qt9 (zfl n.sess p)) Tryz.call127 9999 ?_;simp;refine⟨by decide+kernel,?_⟩;first| (refine⟨[],?_,?_,?_,?_,?_,?_,?_⟩<;>simp[nmF,inB,zn4,zAns,nowI];done)| (refine⟨by decide+kernel,?_⟩;refine⟨[],?_,?_,?_,?_,?_,?_,?_⟩<;>simp[nmF,inB,zn4,zAns,nowI])
abbrev qv0 (n:G.Node):Nat×Blk:=(0,.cells ((zcm n).map .d) 120)
attribute [simp] Tryz.ntmps120 Tryz.results120
theorem qwk (lost:Int)(n:G.Node)(s:MStep)(kf:D)(f:FLk→Int→FLk×Int)(hf:∀l i,OkL l→FnOk Tryz.prog (.d kf) [st (flkC l),int i] (.tup [st (flkC (f l i).1),int (f l i).2]))(hn:OkN n)(hw:s.way=0∨s.way=1):Ct Tryz.prog 120 [.ptr 0 0,st (zaf s),.d (.pro [kf])] [] [qv0 n] (st (zb9 (ze3 f lost n s).2.2)) [qv0 (ze3 f lost n s).1]:=by
 refine Ct.B Tryz.func120 mixed 9999 400 ?_;simp;rcases hw with hw|hw
 ·simp[hw];refine CI.ff (hf n.up s.n hn.up) rfl rfl rfl 9999 ?_;simp;refine⟨by decide+kernel,?_⟩;refine⟨by decide+kernel,?_⟩;first| (refine⟨[],?_,?_,?_,?_,?_,?_,?_⟩<;>simp[nmF,inB,ze3,outE,zAns,setW,wayN,hw];done)| (refine⟨by decide+kernel,?_⟩;refine⟨[],?_,?_,?_,?_,?_,?_,?_⟩<;>simp[nmF,inB,ze3,outE,zAns,setW,wayN,hw])
 ·simp[hw];refine CI.ff (hf n.dn s.n hn.dn) rfl rfl rfl 9999 ?_;simp;refine⟨by decide+kernel,?_⟩;refine⟨by decide+kernel,?_⟩;first| (refine⟨[],?_,?_,?_,?_,?_,?_,?_⟩<;>simp[nmF,inB,ze3,outE,zAns,setW,wayN,hw];done)| (refine⟨by decide+kernel,?_⟩;refine⟨[],?_,?_,?_,?_,?_,?_,?_⟩<;>simp[nmF,inB,ze3,outE,zAns,setW,wayN,hw])
end Go.Proofs.YtjoaclgkjhncjaaGreatDoor
namespace Go.Proofs.YtjoaclgkjhncjaaGreatDoor
open Go.AI Go.G
set_option maxRecDepth 20000
set_option maxHeartbeats 4000000
abbrev qry (i:Nat)(n:G.Node):Nat×Blk:=(i,.cells ((zcm n).map .d) 120)
@[simp] theorem qmx (p:Nat→Bool):∀l:List D,inA.inL p (l.map .d)=true
  |[]=>rfl
  |_::l=>by simp only[List.map_cons,inA.inL,inA,Bool.true_and];exact qmx p l
@[simp] theorem ren_mapd (g:Nat→Nat):AV.ren g∘AV.d=AV.d:=by funext x;simp[AV.ren]
@[simp] def qj8 :Nat→List (List D)→List (Nat×Blk)
  |_,[]=>[]
  |j,n::l=>(j,.cells (n.map .d) 120)::qj8 (j+1) l
@[simp] def qbt :Nat→List (List D)→List Nat
  |_,[]=>[]
  |j,_::l=>j::qbt (j+1) l
abbrev BC (c:Cfg)(p:Store)(lost:Int)(ks:List (List D)):List (Nat×Blk):=zax c p lost 1::(1,.grp (qbt 2 ks) 109)::qj8 2 ks
abbrev BM (M:G.Mesh):List (Nat×Blk):=BC M.c M.p M.lost (M.ns.map zcm)
abbrev mPre (c:Cfg)(p:Store):List AV:=[int c.sides,int c.cap,int c.limit,int c.max,int p.cap,lst (p.hist.map rsC)]
theorem four {α:Type}:∀{l:List α},1≤l.length→l.length≤4→(∃a,l=[a])∨(∃a b,l=[a,b])∨(∃a b c,l=[a,b,c])∨∃a b c d,l=[a,b,c,d]
 |[],h,_=>absurd h (by simp)
 |[a],_,_=>.inl ⟨a,rfl⟩
 |[a,b],_,_=>.inr (.inl ⟨a,b,rfl⟩)
 |[a,b,c],_,_=>.inr (.inr (.inl ⟨a,b,c,rfl⟩))
 |[a,b,c,d],_,_=>.inr (.inr (.inr ⟨a,b,c,d,rfl⟩))
 |_::_::_::_::_::_,_,h=>absurd h (by simp)
attribute [simp] Tryz.ntmps16 Tryz.results16 Tryz.ntmps37 Tryz.results37
theorem zfa (c:Cfg)(p:Store)(lost:Int)(ks:List (List D))(h1:1≤ks.length)(h4:ks.length≤4):Ct Tryz.prog 16 [.ptr 0 0] (BC c p lost ks) [] (int ks.length) []:=by
 rcases four h1 h4 with⟨a,e⟩|⟨a,b,e⟩|⟨a,b,d,e⟩|⟨a,b,d,f,e⟩
 all_goals
  subst e;refine Ct.B Tryz.func16 mixed 9999 400 ?_;simp;first| (refine⟨[],?_,?_,?_,?_,?_,?_,?_⟩<;>simp[nmF,inB];done)| (refine⟨by decide+kernel,?_⟩;refine⟨[],?_,?_,?_,?_,?_,?_,?_⟩<;>simp[nmF,inB])
theorem zr4 (c:Cfg)(p:Store)(lost:Int)(ks:List (List D))(k_:Int)(i:Nat)(hk:k_=i)(hi:i<ks.length)(h4:ks.length≤4):Ct Tryz.prog 37 [.ptr 0 0,int k_] (BC c p lost ks) [] (.ptr (2+i) 0) []:=by
 have h1:1≤ks.length:=by omega
 have e:k_=0∧i=0∨k_=1∧i=1∨k_=2∧i=2∨k_=3∧i=3:=by omega
 rcases four h1 h4 with⟨a,x⟩|⟨a,b,x⟩|⟨a,b,d,x⟩|⟨a,b,d,f,x⟩<;>subst x<;>rcases e with⟨x,y⟩|⟨x,y⟩|⟨x,y⟩|⟨x,y⟩<;>subst x<;>subst y
 all_goals first
  | (exfalso;simp at hi;done)
  |skip
 all_goals
  refine Ct.B Tryz.func37 mixed 9999 400 ?_;simp;refine CI.cc [0,1,2,3,4,5] (zfa c p lost _ h1 h4) Tryz.call16 9999 ?_;simp;first| (refine⟨[],?_,?_,?_,?_,?_,?_,?_⟩<;>simp[nmF,inB];done)| (refine⟨by decide+kernel,?_⟩;refine⟨[],?_,?_,?_,?_,?_,?_,?_⟩<;>simp[nmF,inB])
theorem qh4 (c:Cfg)(p:Store)(lost:Int)(ks:List (List D))(k_:Int)(hk:k_<0∨ks.length≤k_)(h1:1≤ks.length)(h4:ks.length≤4):Ct Tryz.prog 37 [.ptr 0 0,int k_] (BC c p lost ks) [] (.d (.v (.pointer none))) []:=by
 rcases four h1 h4 with⟨a,x⟩|⟨a,b,x⟩|⟨a,b,d,x⟩|⟨a,b,d,f,x⟩<;>subst x<;>by_cases hz:k_<0
 all_goals
  simp[hz]at hk;refine Ct.B Tryz.func37 mixed 9999 400 ?_;simp[hz]
  try
   refine CI.cc [0,1,2,3,4,5] (zfa c p lost _ h1 h4) Tryz.call16 9999 ?_;simp;simp[hk]
  first| (refine⟨[],?_,?_,?_,?_,?_,?_,?_⟩<;>simp[nmF,inB];done)| (refine⟨by decide+kernel,?_⟩;refine⟨[],?_,?_,?_,?_,?_,?_,?_⟩<;>simp[nmF,inB])
attribute [simp] Tryz.ntmps36 Tryz.results36
theorem qko (v:Value)(c:Cfg)(p:Store)(lost:Int):Ct Tryz.prog 36 [.ptr 0 0,int 0] [] [zb0 c p lost v] (.fn (.func 74) [.ptr 0 0] []) [zb0 c p lost v]:=by
 refine Ct.B Tryz.func36 mixed 9999 400 ?_;simp;first| (refine⟨[],?_,?_,?_,?_,?_,?_,?_⟩<;>simp[nmF,inB];done)| (refine⟨by decide+kernel,?_⟩;refine⟨[],?_,?_,?_,?_,?_,?_,?_⟩<;>simp[nmF,inB])
theorem qkl (v:Value)(c:Cfg)(p:Store)(lost:Int)(k_:Int)(h0:¬k_=0)(h6:¬k_=6):Ct Tryz.prog 36 [.ptr 0 0,int k_] [] [zb0 c p lost v] (.d (.v .nilFunc)) [zb0 c p lost v]:=by
 refine Ct.B Tryz.func36 mixed 9999 400 ?_;simp;simp[h0,h6];first| (refine⟨[],?_,?_,?_,?_,?_,?_,?_⟩<;>simp[nmF,inB];done)| (refine⟨by decide+kernel,?_⟩;refine⟨[],?_,?_,?_,?_,?_,?_,?_⟩<;>simp[nmF,inB])
attribute [simp] Tryz.ntmps38 Tryz.results38
theorem qge (v:Value)(c:Cfg)(p:Store)(lost:Int):Ct Tryz.prog 38 [.ptr 0 0,int 1] [] [zb0 c p lost v] (.fn (.func 76) [.ptr 0 0] []) [zb0 c p lost v]:=by
 refine Ct.B Tryz.func38 mixed 9999 400 ?_;simp;first| (refine⟨[],?_,?_,?_,?_,?_,?_,?_⟩<;>simp[nmF,inB];done)| (refine⟨by decide+kernel,?_⟩;refine⟨[],?_,?_,?_,?_,?_,?_,?_⟩<;>simp[nmF,inB])
theorem qf6 (v:Value)(c:Cfg)(p:Store)(lost:Int):Ct Tryz.prog 38 [.ptr 0 0,int 5] [] [zb0 c p lost v] (.fn (.func 81) [.ptr 0 0] []) [zb0 c p lost v]:=by
 refine Ct.B Tryz.func38 mixed 9999 400 ?_;simp;first| (refine⟨[],?_,?_,?_,?_,?_,?_,?_⟩<;>simp[nmF,inB];done)| (refine⟨by decide+kernel,?_⟩;refine⟨[],?_,?_,?_,?_,?_,?_,?_⟩<;>simp[nmF,inB])
theorem qf4 (v:Value)(c:Cfg)(p:Store)(lost:Int):Ct Tryz.prog 38 [.ptr 0 0,int 7] [] [zb0 c p lost v] (.fn (.func 82) [.ptr 0 0] []) [zb0 c p lost v]:=by
 refine Ct.B Tryz.func38 mixed 9999 400 ?_;simp;first| (refine⟨[],?_,?_,?_,?_,?_,?_,?_⟩<;>simp[nmF,inB];done)| (refine⟨by decide+kernel,?_⟩;refine⟨[],?_,?_,?_,?_,?_,?_,?_⟩<;>simp[nmF,inB])
theorem qf2 (v:Value)(c:Cfg)(p:Store)(lost:Int):Ct Tryz.prog 38 [.ptr 0 0,int 8] [] [zb0 c p lost v] (.fn (.func 83) [.ptr 0 0] []) [zb0 c p lost v]:=by
 refine Ct.B Tryz.func38 mixed 9999 400 ?_;simp;first| (refine⟨[],?_,?_,?_,?_,?_,?_,?_⟩<;>simp[nmF,inB];done)| (refine⟨by decide+kernel,?_⟩;refine⟨[],?_,?_,?_,?_,?_,?_,?_⟩<;>simp[nmF,inB])
theorem qf0 (v:Value)(c:Cfg)(p:Store)(lost:Int):Ct Tryz.prog 38 [.ptr 0 0,int 9] [] [zb0 c p lost v] (.fn (.func 84) [.ptr 0 0] []) [zb0 c p lost v]:=by
 refine Ct.B Tryz.func38 mixed 9999 400 ?_;simp;first| (refine⟨[],?_,?_,?_,?_,?_,?_,?_⟩<;>simp[nmF,inB];done)| (refine⟨by decide+kernel,?_⟩;refine⟨[],?_,?_,?_,?_,?_,?_,?_⟩<;>simp[nmF,inB])
theorem qkm (v:Value)(c:Cfg)(p:Store)(lost:Int):Ct Tryz.prog 36 [.ptr 0 0,int 6] [] [zb0 c p lost v] (.fn (.func 75) [.ptr 0 0] []) [zb0 c p lost v]:=by
 refine Ct.B Tryz.func36 mixed 9999 400 ?_;simp;first| (refine⟨[],?_,?_,?_,?_,?_,?_,?_⟩<;>simp[nmF,inB];done)| (refine⟨by decide+kernel,?_⟩;refine⟨[],?_,?_,?_,?_,?_,?_,?_⟩<;>simp[nmF,inB])
attribute [simp] Tryz.ntmps77 Tryz.results77
theorem zuh (f:Nat):Ct Tryz.prog 77 [.d (fnD f)] [] [] (.d (.fn (.func 120) [] [.pro [fnD f]])) []:=by
 refine Ct.B Tryz.func77 mixed 1 400 ?_;simp;refine CI.s (tm:=[(1,.d (.pro [fnD f]))]) (mm:=[]) (nx:=65) [] [64] (by constructor<;>simp) ?_;refine CI.run 9999 400 rfl ?_;simp;first|exact fin0 (by simp) rfl|exact zaa (by simp)
theorem qgc (v:Value)(c:Cfg)(p:Store)(lost:Int):Ct Tryz.prog 38 [.ptr 0 0,int 2] [] [zb0 c p lost v] (.d (.fn (.func 120) [] [.pro [fnD 78]])) [zb0 c p lost v]:=by
 refine Ct.B Tryz.func38 mixed 9999 400 ?_;simp;refine CI.p (zuh 78) Tryz.call77 9999 ?_;simp;first| (refine⟨[],?_,?_,?_,?_,?_,?_,?_⟩<;>simp[nmF,inB];done)| (refine⟨by decide+kernel,?_⟩;refine⟨[],?_,?_,?_,?_,?_,?_,?_⟩<;>simp[nmF,inB])
theorem qga (v:Value)(c:Cfg)(p:Store)(lost:Int):Ct Tryz.prog 38 [.ptr 0 0,int 3] [] [zb0 c p lost v] (.d (.fn (.func 120) [] [.pro [fnD 79]])) [zb0 c p lost v]:=by
 refine Ct.B Tryz.func38 mixed 9999 400 ?_;simp;refine CI.p (zuh 79) Tryz.call77 9999 ?_;simp;first| (refine⟨[],?_,?_,?_,?_,?_,?_,?_⟩<;>simp[nmF,inB];done)| (refine⟨by decide+kernel,?_⟩;refine⟨[],?_,?_,?_,?_,?_,?_,?_⟩<;>simp[nmF,inB])
theorem qf8 (v:Value)(c:Cfg)(p:Store)(lost:Int):Ct Tryz.prog 38 [.ptr 0 0,int 4] [] [zb0 c p lost v] (.d (.fn (.func 120) [] [.pro [fnD 80]])) [zb0 c p lost v]:=by
 refine Ct.B Tryz.func38 mixed 9999 400 ?_;simp;refine CI.p (zuh 80) Tryz.call77 9999 ?_;simp;first| (refine⟨[],?_,?_,?_,?_,?_,?_,?_⟩<;>simp[nmF,inB];done)| (refine⟨by decide+kernel,?_⟩;refine⟨[],?_,?_,?_,?_,?_,?_,?_⟩<;>simp[nmF,inB])
attribute [simp] Tryz.ntmps72 Tryz.results72
theorem qam (a b:Int):Ct Tryz.prog 72 [int a,int b] [] [] (bool (decide (0≤a)&&decide (a≤b))) []:=by
 refine Ct.B Tryz.func72 mixed 9999 400 ?_;simp
 repeat' first
  | (refine sGI (fun h=>?_) (fun h=>?_)<;>simp only[h]<;>simp[h])
  | (refine sBI (fun h=>?_) (fun h=>?_)<;>simp only[h]<;>simp[h])
  | (refine⟨(show zba _ _ from by decide+kernel),?_⟩)
  |fail
 all_goals exact fin0 (by simp[*]) rfl
attribute [simp] Tryz.ntmps73 Tryz.results73
theorem qsa :Ct Tryz.prog 73 [] [] [] (.agg [str ⟨#[117,112,100,97,116,101]⟩,str ⟨#[98,114,105,110,103]⟩,str ⟨#[108,111,115,101]⟩,str ⟨#[97,103,97,105,110]⟩,str ⟨#[108,97,116,101]⟩,str ⟨#[114,101,110,101,119]⟩,str ⟨#[116,105,99,107]⟩,str ⟨#[98,101,103,105,110]⟩,str ⟨#[103,111]⟩,str ⟨#[116,101,108,108]⟩]) []:=by
 refine Ct.B Tryz.func73 mixed 9999 400 ?_;simp;first|exact fin0 (by simp) rfl|exact zaa (by simp)
def nmS (k_:Int):Str:=([⟨#[117,112,100,97,116,101]⟩,⟨#[98,114,105,110,103]⟩,⟨#[108,111,115,101]⟩,⟨#[97,103,97,105,110]⟩,⟨#[108,97,116,101]⟩,⟨#[114,101,110,101,119]⟩,⟨#[116,105,99,107]⟩,⟨#[98,101,103,105,110]⟩,⟨#[103,111]⟩,⟨#[116,101,108,108]⟩]:List Str).getD k_.toNat ⟨#[]⟩
theorem zwu {k_:Int}(h0:0≤k_)(h9:k_≤9):¬nmS k_=⟨#[]⟩:=by
 have e:k_=0∨k_=1∨k_=2∨k_=3∨k_=4∨k_=5∨k_=6∨k_=7∨k_=8∨k_=9:=by omega
 rcases e with e|e|e|e|e|e|e|e|e|e<;>subst e<;>simp[nmS]
attribute [simp] Tryz.ntmps35 Tryz.results35
theorem zwy (k_:Int)(h0:0≤k_)(h9:k_≤9):Ct Tryz.prog 35 [int k_] [] [] (str (nmS k_)) []:=by
 refine Ct.B Tryz.func35 mixed 9999 400 ?_;simp;refine CI.p (qam k_ 9) Tryz.call72 9999 ?_;simp;have e:k_=0∨k_=1∨k_=2∨k_=3∨k_=4∨k_=5∨k_=6∨k_=7∨k_=8∨k_=9:=by omega
 rcases e with e|e|e|e|e|e|e|e|e|e
 all_goals
  subst e
 all_goals
  simp;refine CI.p qsa Tryz.call73 9999 ?_;simp;first|exact fin0 (by simp[nmS]) rfl|exact zaa (by simp[nmS])
theorem qsd (k_:Int)(h:¬(0≤k_∧k_≤9)):Ct Tryz.prog 35 [int k_] [] [] (str ⟨#[]⟩) []:=by
 refine Ct.B Tryz.func35 mixed 9999 400 ?_;simp;refine CI.p (qam k_ 9) Tryz.call72 9999 ?_;simp;have e:(!decide (0≤k_)|| !decide (k_≤9))=true:=by simp;omega
 simp[e];first|exact fin0 (by simp) rfl|exact zaa (by simp)
end Go.Proofs.YtjoaclgkjhncjaaGreatDoor
namespace Go.Proofs.YtjoaclgkjhncjaaGreatDoor
open Go.AI Go.G
set_option maxRecDepth 20000
set_option maxHeartbeats 4000000
theorem zoh (b:Nat)(c:Cfg)(p:Store)(lost k_:Int)(h0:¬k_=0)(h6:¬k_=6):Ct Tryz.prog 36 [.ptr 0 0,int k_] [] [zax c p lost b] (.d (.v .nilFunc)) [zax c p lost b]:=Ct.hide (mr:=[]) (pre:=mPre c p) (pre':=mPre c p) (post:=[int lost]) (post':=[int lost]) rfl fun v=>qkl v c p lost k_ h0 h6
attribute [simp] Tryz.ntmps12 Tryz.results12
abbrev ndB (j:Nat)(cs:List D):Nat×Blk:=(j,.cells (cs.map .d) 120)
theorem qqh (c:Cfg)(p:Store)(lost:Int)(ks:List (List D))(s:MStep)(i:Nat)(cs:List D)(F:Nat)(cs':List D)(o:MOut)(l':Int)(k1:1≤s.kind)(k9:s.kind≤9)(k6:¬s.kind=6)(hw:s.kind≤4→s.way=0∨s.way=1)(h4:ks.length≤4)(hi:ks[i]? =some cs)(hs:s.side=i)(hen:zcz Tryz.prog F)
  (hS:Ct Tryz.prog 38 [.ptr 0 0,int s.kind] [] [zax c p lost 1] (.fn (.func F) [.ptr 0 0] []) [zax c p lost 1])
  (hF:Ct Tryz.prog F [.ptr 0 0,.ptr 1 0,st (zaf s)] [] [zax c p lost 2,ndB 1 cs] (st (zb9 o)) [zax c p l' 2,ndB 1 cs']):Ct Tryz.prog 12 [.ptr 0 0,st (zaf s)] [] (BC c p lost ks) (st (zb9 o)) (BC c p l' (ks.set i cs')):=by
 have hl:i<ks.length:=(List.getElem?_eq_some_iff.1 hi).1;have h1:1≤ks.length:=by omega
 have hne:=zwu (k_:=s.kind) (by omega) k9;have k0:¬s.kind=0:=by omega
 have e:s.side=0∧i=0∨s.side=1∧i=1∨s.side=2∧i=2∨s.side=3∧i=3:=by omega
 have q:(s.kind≤4∧¬s.way<0∧¬2≤s.way)∨(¬s.kind≤4∧True∧True):=by
  by_cases g:s.kind≤4
  ·exact .inl ⟨g,by have:=hw g;omega⟩
  ·exact .inr ⟨g,trivial,trivial⟩
 rcases four h1 h4 with⟨a,x⟩|⟨a,b,x⟩|⟨a,b,d,x⟩|⟨a,b,d,f,x⟩<;>subst x<;>rcases e with⟨e,x⟩|⟨e,x⟩|⟨e,x⟩|⟨e,x⟩<;>subst x
 all_goals first
  | (exfalso;simp at hl;done)
  |skip
 all_goals
  simp at hi;subst hi;rcases q with⟨g1,g2,g3⟩|⟨g1,g2,g3⟩
 all_goals
  refine Ct.B Tryz.func12 mixed 9999 400 ?_;simp;refine CI.cc [0,1,2,3,4,5] (zfa c p lost _ h1 h4) Tryz.call16 9999 ?_;simp;refine CI.p (zwy s.kind (by omega) k9) Tryz.call35 9999 ?_;simp;simp[hne];refine CI.cc [0,1] (zoh 1 c p lost s.kind k0 k6) Tryz.call36 9999 ?_;simp;refine CI.cc [0,1,2,3,4,5] (zr4 c p lost _ s.side _ hs hl h4) Tryz.call37 9999 ?_;simp;simp[g1,g2,g3];refine CI.cc [0,1] hS Tryz.call38 9999 ?_;simp;refine CI.cc [0,2+s.side.toNat,1] hF hen 9999 ?_ (ha:=by simp[e]) (hn:=by constructor<;>simp[nmOk,e]) (hk:=by simp[e]);simp[e];first| (refine⟨[],?_,?_,?_,?_,?_,?_,?_⟩<;>simp[nmF,inB];done)| (refine⟨by decide+kernel,?_⟩;refine⟨[],?_,?_,?_,?_,?_,?_,?_⟩<;>simp[nmF,inB])
theorem qqg (c:Cfg)(p:Store)(lost:Int)(ks:List (List D))(s:MStep)(i:Nat)(cs:List D)(F:Nat)(cs':List D)(o:MOut)(kf:D)(k1:1≤s.kind)(g1:s.kind≤4)(hw:s.way=0∨s.way=1)(h4:ks.length≤4)(hi:ks[i]? =some cs)(hs:s.side=i)(hen:zcz Tryz.prog F)
  (hS:Ct Tryz.prog 38 [.ptr 0 0,int s.kind] [] [zax c p lost 1] (.d (.fn (.func F) [] [.pro [kf]])) [zax c p lost 1])
  (hF:Ct Tryz.prog F [.ptr 0 0,st (zaf s),.d (.pro [kf])] [] [ndB 0 cs] (st (zb9 o)) [ndB 0 cs']):Ct Tryz.prog 12 [.ptr 0 0,st (zaf s)] [] (BC c p lost ks) (st (zb9 o)) (BC c p lost (ks.set i cs')):=by
 have hl:i<ks.length:=(List.getElem?_eq_some_iff.1 hi).1;have h1:1≤ks.length:=by omega
 have k9:s.kind≤9:=by omega
 have k6:¬s.kind=6:=by omega
 have g2:¬s.way<0:=by omega
 have g3:¬2≤s.way:=by omega
 have hne:=zwu (k_:=s.kind) (by omega) k9;have k0:¬s.kind=0:=by omega
 have e:s.side=0∧i=0∨s.side=1∧i=1∨s.side=2∧i=2∨s.side=3∧i=3:=by omega
 rcases four h1 h4 with⟨a,x⟩|⟨a,b,x⟩|⟨a,b,d,x⟩|⟨a,b,d,f,x⟩<;>subst x<;>rcases e with⟨e,x⟩|⟨e,x⟩|⟨e,x⟩|⟨e,x⟩<;>subst x
 all_goals first
  | (exfalso;simp at hl;done)
  |skip
 all_goals
  simp at hi;subst hi
 all_goals
  refine Ct.B Tryz.func12 mixed 9999 400 ?_;simp;refine CI.cc [0,1,2,3,4,5] (zfa c p lost _ h1 h4) Tryz.call16 9999 ?_;simp;refine CI.p (zwy s.kind (by omega) k9) Tryz.call35 9999 ?_;simp;simp[hne];refine CI.cc [0,1] (zoh 1 c p lost s.kind k0 k6) Tryz.call36 9999 ?_;simp;refine CI.cc [0,1,2,3,4,5] (zr4 c p lost _ s.side _ hs hl h4) Tryz.call37 9999 ?_;simp;simp[g1,g2,g3];refine CI.cc [0,1] hS Tryz.call38 9999 ?_;simp;refine CI.cc [2+s.side.toNat] hF hen 9999 ?_ (ha:=by simp[e]) (hn:=by constructor<;>simp[nmOk,e]) (hk:=by simp[e]);simp[e];first| (refine⟨[],?_,?_,?_,?_,?_,?_,?_⟩<;>simp[nmF,inB];done)| (refine⟨by decide+kernel,?_⟩;refine⟨[],?_,?_,?_,?_,?_,?_,?_⟩<;>simp[nmF,inB])
end Go.Proofs.YtjoaclgkjhncjaaGreatDoor
namespace Go.Proofs.YtjoaclgkjhncjaaGreatDoor
open Go.AI Go.G
set_option maxRecDepth 20000
set_option maxHeartbeats 4000000
theorem qqf (c:Cfg)(p:Store)(lost:Int)(ks:List (List D))(s:MStep)(h1:1≤ks.length)(h4:ks.length≤4)(hk:¬(0≤s.kind∧s.kind≤9)):Ct Tryz.prog 12 [.ptr 0 0,st (zaf s)] [] (BC c p lost ks) (st (zb9 (outE 4))) (BC c p lost ks):=by
 rcases four h1 h4 with⟨a,x⟩|⟨a,b,x⟩|⟨a,b,d,x⟩|⟨a,b,d,f,x⟩<;>subst x
 all_goals
  refine Ct.B Tryz.func12 mixed 9999 400 ?_;simp;refine CI.cc [0,1,2,3,4,5] (zfa c p lost _ h1 h4) Tryz.call16 9999 ?_;simp;refine CI.p (qsd s.kind hk) Tryz.call35 9999 ?_;simp;first| (refine⟨[],?_,?_,?_,?_,?_,?_,?_⟩<;>simp[nmF,inB,outE,zAns];done)| (refine⟨by decide+kernel,?_⟩;refine⟨[],?_,?_,?_,?_,?_,?_,?_⟩<;>simp[nmF,inB,outE,zAns])
theorem qk4 (c:Cfg)(p:Store)(lost:Int)(ks:List (List D))(s:MStep)(h1:1≤ks.length)(h4:ks.length≤4)(k1:1≤s.kind)(k9:s.kind≤9)(k6:¬s.kind=6)(hs:s.side<0∨ks.length≤s.side):Ct Tryz.prog 12 [.ptr 0 0,st (zaf s)] [] (BC c p lost ks) (st (zb9 (outE 10))) (BC c p lost ks):=by
 have q:(s.kind≤4∧s.way<0∧True)∨(s.kind≤4∧¬s.way<0∧2≤s.way)∨(s.kind≤4∧¬s.way<0∧¬2≤s.way)∨(¬s.kind≤4∧True∧True):=by
  by_cases g:s.kind≤4<;>by_cases g':s.way<0<;>by_cases g'':2≤s.way<;>simp[g,g',g'']
 have hne:=zwu (k_:=s.kind) (by omega) k9;have k0:¬s.kind=0:=by omega
 rcases four h1 h4 with⟨a,x⟩|⟨a,b,x⟩|⟨a,b,d,x⟩|⟨a,b,d,f,x⟩<;>subst x<;>rcases q with⟨g1,g2,g3⟩|⟨g1,g2,g3⟩|⟨g1,g2,g3⟩|⟨g1,g2,g3⟩
 all_goals
  refine Ct.B Tryz.func12 mixed 9999 400 ?_;simp;refine CI.cc [0,1,2,3,4,5] (zfa c p lost _ h1 h4) Tryz.call16 9999 ?_;simp;refine CI.p (zwy s.kind (by omega) k9) Tryz.call35 9999 ?_;simp;simp[hne];refine CI.cc [0,1] (zoh 1 c p lost s.kind k0 k6) Tryz.call36 9999 ?_;simp;refine CI.cc [0,1,2,3,4,5] (qh4 c p lost _ s.side hs h1 h4) Tryz.call37 9999 ?_;simp;simp[g1,g2,g3];first| (refine⟨[],?_,?_,?_,?_,?_,?_,?_⟩<;>simp[nmF,inB,outE,zAns];done)| (refine⟨by decide+kernel,?_⟩;refine⟨[],?_,?_,?_,?_,?_,?_,?_⟩<;>simp[nmF,inB,outE,zAns])
theorem qk3 (c:Cfg)(p:Store)(lost:Int)(ks:List (List D))(s:MStep)(i:Nat)(hi:i<ks.length)(h4:ks.length≤4)(hs:s.side=i)(k1:1≤s.kind)(g1:s.kind≤4)(hw:s.way<0∨2≤s.way):Ct Tryz.prog 12 [.ptr 0 0,st (zaf s)] [] (BC c p lost ks) (st (zb9 (outE 10))) (BC c p lost ks):=by
 have h1:1≤ks.length:=by omega
 have k9:s.kind≤9:=by omega
 have k6:¬s.kind=6:=by omega
 have q:(s.way<0∧True)∨(¬s.way<0∧2≤s.way):=by
  by_cases g:s.way<0
  ·exact .inl ⟨g,trivial⟩
  ·exact .inr ⟨g,by omega⟩
 have hne:=zwu (k_:=s.kind) (by omega) k9;have k0:¬s.kind=0:=by omega
 have e:i=0∨i=1∨i=2∨i=3:=by omega
 rcases four h1 h4 with⟨a,x⟩|⟨a,b,x⟩|⟨a,b,d,x⟩|⟨a,b,d,f,x⟩<;>subst x<;>rcases e with x|x|x|x<;>subst x
 all_goals first
  | (exfalso;simp at hi;done)
  |skip
 all_goals
  rcases q with⟨g2,g3⟩|⟨g2,g3⟩
 all_goals
  refine Ct.B Tryz.func12 mixed 9999 400 ?_;simp;refine CI.cc [0,1,2,3,4,5] (zfa c p lost _ h1 h4) Tryz.call16 9999 ?_;simp;refine CI.p (zwy s.kind (by omega) k9) Tryz.call35 9999 ?_;simp;simp[hne];refine CI.cc [0,1] (zoh 1 c p lost s.kind k0 k6) Tryz.call36 9999 ?_;simp;refine CI.cc [0,1,2,3,4,5] (zr4 c p lost _ s.side _ hs hi h4) Tryz.call37 9999 ?_;simp;simp[g1,g2,g3];first| (refine⟨[],?_,?_,?_,?_,?_,?_,?_⟩<;>simp[nmF,inB,outE,zAns];done)| (refine⟨by decide+kernel,?_⟩;refine⟨[],?_,?_,?_,?_,?_,?_,?_⟩<;>simp[nmF,inB,outE,zAns])
attribute [simp] Tryz.ntmps74 Tryz.results74
theorem quh (s:MStep)(c:Cfg)(p q:Store)(l0 l1:Int)(a1 b1:List D)(e1:Int)(hP:CtJ errG Tryz.prog 112 [st (zbg p),lst (s.adds.map resC),lst (s.gone.map keyC)] [] [] (.tup [st (zbg q),int 0]) [])(hq:q.hist.length≤1000000)(P1:Ct Tryz.prog 113 [.ptr 0 0,.ptr 1 0] [] [zax c q l0 2,ndB 1 a1] (int e1) [zax c q l1 2,ndB 1 b1]):CtJ errG Tryz.prog 74 [.ptr 0 0,st (zaf s)] [] (BC c p l0 [a1]) (st (zb9 ⟨e1,nowI q,zAns,[],[]⟩)) (BC c q l1 [b1]):=by
 refine CtJ.B errK Tryz.func74 mixed 9999 400 ?_;simp;refine CI.j [] hP Tryz.call112 9999 ?_;simp;refine⟨by decide+kernel,?_⟩;refine CI.p (ztx q hq) Tryz.call22 9999 ?_;simp;refine LoopI.rounds 2 ?_;refine RoundsI.step mixed rfl ?_;refine CI.run 9999 400 rfl ?_;simp;refine CI.cc [0,2,1] P1 Tryz.call113 9999 ?_;simp;all_goals
  refine RoundsI.step mixed rfl ?_;refine CI.run 9999 400 rfl ?_;simp;first| (refine⟨[],?_,?_,?_,?_,?_,?_,?_⟩<;>simp[nmF,inB,nowI,zAns];done)| (refine⟨by decide+kernel,?_⟩;refine⟨[],?_,?_,?_,?_,?_,?_,?_⟩<;>simp[nmF,inB,nowI,zAns])
theorem qug (s:MStep)(c:Cfg)(p q:Store)(l0 l1 l2:Int)(a1 b1 a2 b2:List D)(e1 e2:Int)(hP:CtJ errG Tryz.prog 112 [st (zbg p),lst (s.adds.map resC),lst (s.gone.map keyC)] [] [] (.tup [st (zbg q),int 0]) [])(hq:q.hist.length≤1000000)(P1:Ct Tryz.prog 113 [.ptr 0 0,.ptr 1 0] [] [zax c q l0 2,ndB 1 a1] (int e1) [zax c q l1 2,ndB 1 b1])(P2:Ct Tryz.prog 113 [.ptr 0 0,.ptr 1 0] [] [zax c q l1 2,ndB 1 a2] (int e2) [zax c q l2 2,ndB 1 b2]):CtJ errG Tryz.prog 74 [.ptr 0 0,st (zaf s)] [] (BC c p l0 [a1,a2]) (st (zb9 ⟨if e1=0 then e2 else e1,nowI q,zAns,[],[]⟩)) (BC c q l2 [b1,b2]):=by
 refine CtJ.B errK Tryz.func74 mixed 9999 400 ?_;simp;refine CI.j [] hP Tryz.call112 9999 ?_;simp;refine⟨by decide+kernel,?_⟩;refine CI.p (ztx q hq) Tryz.call22 9999 ?_;simp;refine LoopI.rounds 3 ?_;refine RoundsI.step mixed rfl ?_;refine CI.run 9999 400 rfl ?_;simp;refine CI.cc [0,2,1] P1 Tryz.call113 9999 ?_;simp;all_goals
  refine RoundsI.step mixed rfl ?_;refine CI.run 9999 400 rfl ?_;simp;refine CI.cc [0,3,1] P2 Tryz.call113 9999 ?_;simp
 all_goals
  by_cases g2:e1=0
 all_goals
  simp[g2]
 all_goals
  refine RoundsI.step mixed rfl ?_;refine CI.run 9999 400 rfl ?_;simp;first| (refine⟨[],?_,?_,?_,?_,?_,?_,?_⟩<;>simp[nmF,inB,nowI,zAns,g2];done)| (refine⟨by decide+kernel,?_⟩;refine⟨[],?_,?_,?_,?_,?_,?_,?_⟩<;>simp[nmF,inB,nowI,zAns,g2])
theorem quf (s:MStep)(c:Cfg)(p q:Store)(l0 l1 l2 l3:Int)(a1 b1 a2 b2 a3 b3:List D)(e1 e2 e3:Int)(hP:CtJ errG Tryz.prog 112 [st (zbg p),lst (s.adds.map resC),lst (s.gone.map keyC)] [] [] (.tup [st (zbg q),int 0]) [])(hq:q.hist.length≤1000000)(P1:Ct Tryz.prog 113 [.ptr 0 0,.ptr 1 0] [] [zax c q l0 2,ndB 1 a1] (int e1) [zax c q l1 2,ndB 1 b1])(P2:Ct Tryz.prog 113 [.ptr 0 0,.ptr 1 0] [] [zax c q l1 2,ndB 1 a2] (int e2) [zax c q l2 2,ndB 1 b2])(P3:Ct Tryz.prog 113 [.ptr 0 0,.ptr 1 0] [] [zax c q l2 2,ndB 1 a3] (int e3) [zax c q l3 2,ndB 1 b3]):CtJ errG Tryz.prog 74 [.ptr 0 0,st (zaf s)] [] (BC c p l0 [a1,a2,a3]) (st (zb9 ⟨if(if e1=0 then e2 else e1)=0 then e3 else(if e1=0 then e2 else e1),nowI q,zAns,[],[]⟩)) (BC c q l3 [b1,b2,b3]):=by
 refine CtJ.B errK Tryz.func74 mixed 9999 400 ?_;simp;refine CI.j [] hP Tryz.call112 9999 ?_;simp;refine⟨by decide+kernel,?_⟩;refine CI.p (ztx q hq) Tryz.call22 9999 ?_;simp;refine LoopI.rounds 4 ?_;refine RoundsI.step mixed rfl ?_;refine CI.run 9999 400 rfl ?_;simp;refine CI.cc [0,2,1] P1 Tryz.call113 9999 ?_;simp;all_goals
  refine RoundsI.step mixed rfl ?_;refine CI.run 9999 400 rfl ?_;simp;refine CI.cc [0,3,1] P2 Tryz.call113 9999 ?_;simp
 all_goals
  by_cases g2:e1=0
 all_goals
  simp[g2]
 all_goals
  refine RoundsI.step mixed rfl ?_;refine CI.run 9999 400 rfl ?_;simp;refine CI.cc [0,4,1] P3 Tryz.call113 9999 ?_;simp
 all_goals
  by_cases g3:e2=0
 all_goals
  simp[g2,g3]
 all_goals
  refine RoundsI.step mixed rfl ?_;refine CI.run 9999 400 rfl ?_;simp;first| (refine⟨[],?_,?_,?_,?_,?_,?_,?_⟩<;>simp[nmF,inB,nowI,zAns,g2,g3];done)| (refine⟨by decide+kernel,?_⟩;refine⟨[],?_,?_,?_,?_,?_,?_,?_⟩<;>simp[nmF,inB,nowI,zAns,g2,g3])
theorem que (s:MStep)(c:Cfg)(p q:Store)(l0 l1 l2 l3 l4:Int)(a1 b1 a2 b2 a3 b3 a4 b4:List D)(e1 e2 e3 e4:Int)(hP:CtJ errG Tryz.prog 112 [st (zbg p),lst (s.adds.map resC),lst (s.gone.map keyC)] [] [] (.tup [st (zbg q),int 0]) [])(hq:q.hist.length≤1000000)(P1:Ct Tryz.prog 113 [.ptr 0 0,.ptr 1 0] [] [zax c q l0 2,ndB 1 a1] (int e1) [zax c q l1 2,ndB 1 b1])(P2:Ct Tryz.prog 113 [.ptr 0 0,.ptr 1 0] [] [zax c q l1 2,ndB 1 a2] (int e2) [zax c q l2 2,ndB 1 b2])(P3:Ct Tryz.prog 113 [.ptr 0 0,.ptr 1 0] [] [zax c q l2 2,ndB 1 a3] (int e3) [zax c q l3 2,ndB 1 b3])(P4:Ct Tryz.prog 113 [.ptr 0 0,.ptr 1 0] [] [zax c q l3 2,ndB 1 a4] (int e4) [zax c q l4 2,ndB 1 b4]):CtJ errG Tryz.prog 74 [.ptr 0 0,st (zaf s)] [] (BC c p l0 [a1,a2,a3,a4]) (st (zb9 ⟨if(if(if e1=0 then e2 else e1)=0 then e3 else(if e1=0 then e2 else e1))=0 then e4 else(if(if e1=0 then e2 else e1)=0 then e3 else(if e1=0 then e2 else e1)),nowI q,zAns,[],[]⟩)) (BC c q l4 [b1,b2,b3,b4]):=by
 refine CtJ.B errK Tryz.func74 mixed 9999 400 ?_;simp;refine CI.j [] hP Tryz.call112 9999 ?_;simp;refine⟨by decide+kernel,?_⟩;refine CI.p (ztx q hq) Tryz.call22 9999 ?_;simp;refine LoopI.rounds 5 ?_;refine RoundsI.step mixed rfl ?_;refine CI.run 9999 400 rfl ?_;simp;refine CI.cc [0,2,1] P1 Tryz.call113 9999 ?_;simp;all_goals
  refine RoundsI.step mixed rfl ?_;refine CI.run 9999 400 rfl ?_;simp;refine CI.cc [0,3,1] P2 Tryz.call113 9999 ?_;simp
 all_goals
  by_cases g2:e1=0
 all_goals
  simp[g2]
 all_goals
  refine RoundsI.step mixed rfl ?_;refine CI.run 9999 400 rfl ?_;simp;refine CI.cc [0,4,1] P3 Tryz.call113 9999 ?_;simp
 all_goals
  by_cases g3:e2=0
 all_goals
  simp[g2,g3]
 all_goals
  refine RoundsI.step mixed rfl ?_;refine CI.run 9999 400 rfl ?_;simp;refine CI.cc [0,5,1] P4 Tryz.call113 9999 ?_;simp
 all_goals
  by_cases g4:e3=0
 all_goals
  simp[g2,g3,g4]
 all_goals
  refine RoundsI.step mixed rfl ?_;refine CI.run 9999 400 rfl ?_;simp;first| (refine⟨[],?_,?_,?_,?_,?_,?_,?_⟩<;>simp[nmF,inB,nowI,zAns,g2,g3,g4];done)| (refine⟨by decide+kernel,?_⟩;refine⟨[],?_,?_,?_,?_,?_,?_,?_⟩<;>simp[nmF,inB,nowI,zAns,g2,g3,g4])
end Go.Proofs.YtjoaclgkjhncjaaGreatDoor
