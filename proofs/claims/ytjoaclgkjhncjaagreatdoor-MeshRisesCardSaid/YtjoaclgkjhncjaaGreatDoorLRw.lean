/-
  LAYER 24: versions never fall.
-/
import Derived.Test.YtjoaclgkjhncjaaGreatDoorPt
import Derived.Test.YtjoaclgkjhncjaaGreatDoorWo
set_option linter.unusedSimpArgs false
set_option linter.unusedVariables false
namespace Go.G
open Go.AI
structure RJ (p:Store)(k:Key)(last:Int)(n:Node):Prop where
 h:last≤p.hist.length
 w:∀r∈nowL p,r.key=k→last≤r.ver
 c:∀r∈n.side.w.c.l,r.key=k→last≤r.ver
 a:n.sess.v.open_=true→∀r∈n.sess.v.push.adds,r.key=k→last≤r.ver
theorem RJ.of {p:Store}{k:Key}{last:Int}{n m:Node}(h:RJ p k last n)(hc:m.side.w.c.l=n.side.w.c.l)(hs:m.sess=n.sess):RJ p k last m:=⟨h.h,h.w,by rw[hc];exact h.c,by rw[hs];exact h.a⟩
theorem qj2 (s:Side)(hs:za0 s=true)(e:Int):(zao s e).1.w=s.w:=by
 unfold zao;rw[zbh hs];unfold zcf;split
 ·rfl
 split<;>rfl
theorem RJ.renew {p:Store}{k:Key}{last:Int}{n:Node}(h:RJ p k last n)(hs:za0 n.side=true)(mx lost:Int):RJ p k last (za6 mx lost n).1:=by
 unfold za6;split
 ·exact h
 ·exact⟨h.h,h.w,by show∀r∈(zao n.side _).1.w.c.l,_;rw[qj2 _ hs];exact h.c,fun q=>by cases q⟩
theorem RJ.pump {p:Store}{k:Key}{last:Int}{n:Node}(h:RJ p k last n)(hp:sanS p=true)(hs:za0 n.side=true)(hv:zbr n.sess=true)(mx lost:Int):RJ p k last (zc9 mx p lost n).1:=by
 have m:RJ p k last {n with sess:=(Go.G.pump n.sess p).1,dn:=(za1 n.dn lost (Go.G.pump n.sess p).2.1).1}:=by
  refine⟨h.h,h.w,h.c,?_⟩;show(Go.G.pump n.sess p).1.v.open_=true→∀r∈(Go.G.pump n.sess p).1.v.push.adds,_;rcases zjg hv p with⟨e1,_⟩|⟨x,c1,c2,c3,c4,c5⟩
  ·rw[e1];exact h.a
  ·have so:=(zti hv hp c1 c3 c4).adds;rw[c5];exact fun _ r hr hk=>h.w r (zce (so r hr)) hk
 unfold zc9;dsimp only;split
 ·exact m
 ·exact m.renew hs _ _
theorem RJ.prop {p:Store}{k:Key}{last:Int}{n:Node}(h:RJ p k last n)(hp:sanS p=true)(adds:List Res)(gone:List Key):RJ (zgz p adds gone) k last n:=by
 have hn:nowL p=zbf p:=by unfold nowL;rw[zde hp]
 have hn':nowL (zgz p adds gone)=zbf (zgz p adds gone):=by unfold nowL;rw[zde (zez hp adds gone)]
 have hw:=h.w;have hh:=h.h;rw[hn]at hw;refine⟨?_,?_,h.c,h.a⟩
 ·unfold zgz;split
  ·simp only[List.length_append,List.length_singleton];omega
  ·exact hh
 ·rw[hn'];unfold zgz;split
  ·intro r hr hk;have e:zbf ⟨p.cap,p.hist++[ziv p adds gone]⟩=ziv p adds gone:=by simp[zbf]
   rw[e]at hr;obtain⟨y,hy,rfl⟩:=List.mem_map.1 hr;show last≤(match getR (zbf p) y.key with|some o=>if za9 o y then o.ver else(p.hist.length:Int)|none=>(p.hist.length:Int));split
   ·rename_i o ho;split
    ·exact hw o (zce ho) ((zfs ho).trans hk)
    ·exact hh
   ·exact hh
  ·exact hw
theorem RJ.bring {p:Store}{k:Key}{last:Int}{n:Node}(h:RJ p k last n)(hi:NodI p n)(hp:sanS p=true)(hs:za0 n.side=true)(ho:OkN n)(mx lost:Int)(s:MStep)(hw:s.way=0∨s.way=1):RJ p k last (zck mx p lost n s).1:=by
 have t:=zoi (wayN n s.way) s.n;have om:=ho.set s.way ((ho.way s.way).take s.n).1;have so:=zpm n s.way (zaw (wayN n s.way) s.n).1;have km:RJ p k last (setW n s.way (zaw (wayN n s.way) s.n).1):=h.of (by rw[so.1]) so.2.1;unfold zck;dsimp only;split
 ·exact km
 rename_i h2;have hm:=t.2.2 (zs5 (Decidable.not_not.1 h2));split
 ·rename_i hway;have hn0:s.way≠0:=by omega
  refine⟨h.h,h.w,?_,km.a⟩;show∀r∈(zea (setW n s.way _).side _).1.w.c.l,_;rw[so.1];have hm':(zaw (wayN n s.way) s.n).2.1∈n.dn.q:=by unfold wayN at hm⊢;rw[if_neg hn0]at hm⊢;exact hm
  generalize(zaw (wayN n s.way) s.n).2.1=f at hm'⊢;have o:=qaz hs f;generalize zea n.side f=R at o;cases o with
  |none e h0=>exact h.c
  |again=>exact h.c
  |take u hr hk hn ha hi' h1 h2 h3=>
   show∀r∈u.w.c.l,_;rcases ha with⟨e,_,_,hw,_⟩|⟨_,_,hc,_,_⟩
   ·rw[hw];exact h.c
   ·rw[hc];intro r hr hk';rcases ziz hr with q|q
    ·exact h.c r q hk'
    ·cases hi.ph with
     |fresh _ _ hd=>exact(hd f hm').elim
     |closed _ _ _ _ hd=>have:=hd f hm';omega
     |taken _ _ _ _ hd=>have:=hd f hm';omega
     |sent _ ho' _ _ hd=>
      rcases hd f hm' with e|e
      ·rw[e]at q;exact h.a ho' r q hk'
      ·omega
 ·have hh:RJ p k last {(setW n s.way (zaw (wayN n s.way) s.n).1)with sess:=(handle (setW n s.way (zaw (wayN n s.way) s.n).1).sess p (zaw (wayN n s.way) s.n).2.1).1}:=by
   refine⟨km.h,km.w,km.c,?_⟩;show(handle (setW n s.way _).sess p _).1.v.open_=true→∀r∈(handle (setW n s.way _).sess p _).1.v.push.adds,_;rcases zsf p (zaw (wayN n s.way) s.n).2.1 om.ss with⟨_,e2,e3⟩|⟨_,_,_,_,e2,e3,_⟩
   ·rw[e2,e3];exact km.a
   ·rw[e2,e3];exact fun q=>by cases q
  split
  ·exact hh
  ·exact hh.pump hp (by show za0 (setW n s.way _).side=true;rw[so.1];exact hs) (zek p _ om.ss) mx lost
theorem RJ.single {p:Store}{k:Key}{last:Int}{n:Node}(h:RJ p k last n)(hi:NodI p n)(hp:sanS p=true)(hs:za0 n.side=true)(ho:OkN n)(mx lost:Int)(s:MStep)(hw:s.kind≤4→s.way=0∨s.way=1):RJ p k last (za7 mx p lost n s).1:=by
 have hx:∀f:FLk→Int→FLk×Int,RJ p k last (ze3 f lost n s).1:=fun f=>by
  have so:=zpm n s.way (f (wayN n s.way) s.n).1;exact h.of (by show(setW _ _ _).side.w.c.l=_;rw[so.1]) so.2.1
 unfold za7;split
 ·exact h.bring hi hp hs ho mx lost s (hw (by omega))
 split
 ·exact hx _
 split
 ·exact hx _
 split
 ·exact hx _
 split
 ·exact h.renew hs mx lost
 split
 ·exact h.of rfl rfl
 split
 ·exact h.of (by show(zei n.pool n.side s.n).2.1.w.c.l=_;rw[(GoesTo.pick hs n.pool s.n).w]) rfl
 ·exact h
theorem RJ.step {M:Mesh}{C:Int}(hM:OkM M C){s:MStep}{i:Nat}{n m:Node}(ho:OkN n)(hs:za0 n.side=true)(hi:NodI M.p n){k:Key}{last:Int}(h:RJ M.p k last n)(st:NSt M s i n m):RJ (za2 M s).1.p k last m:=by
 have hp:=hM.p;have hst:RJ (za2 M s).1.p k last n:=by
  rcases(zg5 M s).2 with e|⟨_,_,e⟩
  ·rw[e];exact h
  ·rw[e];exact h.prop hp _ _
 cases st with
 |same h=>exact hst
 |pump h0 he lost=>
  have e:(za2 M s).1.p=zgz M.p s.adds s.gone:=zvj hM h0 he;rw[e]at hst⊢;exact hst.pump (zez hp s.adds s.gone) hs ho.ss _ _
 |tick h0 lost=>exact hst.of rfl rfl
 |one h1 h0 hw lost=>
  have e:(za2 M s).1.p=M.p:=by
   rcases(zg5 M s).2 with e|⟨q,_⟩
   ·exact e
   ·omega
  rw[e]at hst⊢;exact hst.single hi hp hs ho _ _ _ hw
theorem RJ.shown {p:Store}(hp:sanS p=true){n:Node}(hi:NodI p n)(hs:za0 n.side=true){r:Res}(hr:r∈n.side.w.c.l):RJ p r.key r.ver n:=by
 have c:=hi.com;have ip:=c.si.inn r hr;have asc:AscR n.side.w.c.l:=zcc (saneC_iff.1 (saneW_iff.1 (saneX_iff.1 hs).w).1).2.1;refine⟨?_,fun x hx hk=>qh1 hp ip hx hk,fun x hx hk=>?_,fun ho x hx hk=>?_⟩
 ·obtain⟨l,hl,hr'⟩:=ip;obtain⟨j,m,h1,h2,_⟩:=(zrt hp).1.ver l hl r hr';have:=(List.getElem?_eq_some_iff.1 h2).1;omega
 ·have a:=zbz asc hx;rw[hk,zbz asc hr]at a;cases a;exact Int.le_refl _
 ·refine c.rs ho r ?_ x hx hk;cases hi.ph with
  |fresh hg hq=>rw[ho]at hq;cases hq
  |closed hg hq=>rw[ho]at hq;cases hq
  |sent _ _ hv=>rw[hv];exact .inl hr
  |taken _ _ hv=>
   rw[hv]at hr;split at hr
   ·exact ziz hr
   ·exact .inl hr
def zvs (n:Node)(k:Key)(last:Int):Int:=match getR (zj1 n.side) k with
 |some r=>r.ver
 |none=>last
def qlh (o:Option Node)(k:Key)(last:Int):Int:=match o with
 |some n=>zvs n k last
 |none=>last
theorem qdm {n:Node}{k:Key}{r:Res}(h:getR (zj1 n.side) k=some r)(last:Int):zvs n k last=r.ver:=by unfold zvs;rw[h]
theorem qdn {n:Node}{k:Key}(h:getR (zj1 n.side) k=none)(last:Int):zvs n k last=last:=by unfold zvs;rw[h]
def zon (i:Nat)(k:Key)(z:Mesh×Int)(s:MStep):Mesh×Int:=((za2 z.1 s).1,qlh (za2 z.1 s).1.ns[i]? k z.2)
def zq7 (c:Cfg)(i:Nat)(k:Key)(l:List MStep):Mesh×Int:=l.foldl (zon i k) (newM c,-1)
theorem zv3 (c:Cfg)(i:Nat)(k:Key)(l:List MStep)(s:MStep):zq7 c i k (l++[s])=zon i k (zq7 c i k l) s:=by simp[zq7]
theorem qa7 {M:Mesh}{C C':Int}(hM:OkM M C){s:MStep}(hM':OkM (za2 M s).1 C'){i:Nat}{k:Key}{last:Int}(h:∀n,M.ns[i]? =some n→za0 n.side=true∧NodI M.p n∧RJ M.p k last n){n:Node}(hn:(za2 M s).1.ns[i]? =some n)(hs:za0 n.side=true)(hi:NodI (za2 M s).1.p n):RJ (za2 M s).1.p k last n∧RJ (za2 M s).1.p k (zvs n k last) n:=by
 obtain⟨x,hx,st⟩:=qfs _ s hn;obtain⟨h1,h2,h3⟩:=h x hx;have st':=RJ.step hM (hM.ok x (List.mem_of_getElem? hx)) h1 h2 h3 st;refine⟨st',?_⟩;unfold zvs;split
 ·rename_i r hr;have sh:=ztg hs;rw[sh.1,sh.2]at hr;rw[←zfs hr];exact RJ.shown hM'.p hi hs (mem_reachR.1 (zce hr)).1
 ·exact st'
theorem qa8 (c:Cfg)(i:Nat)(k:Key):∀(m:Nat) (l:List MStep),l.length=m→m≤100000→(∀s∈l,OkSt s)→(zq7 c i k l).1=(zb8 (newM c) l).1∧∀n,(zb8 (newM c) l).1.ns[i]? =some n→za0 n.side=true∧NodI (zb8 (newM c) l).1.p n∧RJ (zb8 (newM c) l).1.p k (zq7 c i k l).2 n:=by
 intro m;induction m with
 |zero=>
  intro l hl _ hok;rw[List.eq_nil_of_length_eq_zero hl];refine⟨rfl,fun n hn=>?_⟩;have pi:=zjh c (l:=[]) (by simp) (by simp) hn;refine⟨pi.1.xs,pi.2,?_⟩;have:=List.mem_of_getElem? hn;rw[List.eq_of_mem_replicate this];refine⟨by show(-1:Int)≤1;decide,fun r hr=>?_,fun r hr=>(by cases hr),fun q=>(by cases q)⟩;have:nowL (newM c).p=[]:=by simp[nowL,za5,newM,newS,zbf]
  rw[show(zb8 (newM c) []).1=newM c from rfl,this]at hr;cases hr
 |succ m ih=>
  intro l hl hm hok;obtain⟨l',s,rfl⟩:∃l' s,l=l'++[s]:=⟨l.dropLast,l.getLast (by intro e;subst e;simp at hl),(List.dropLast_concat_getLast _).symm⟩;have hok':∀x∈l',OkSt x:=fun x hx=>hok x (List.mem_append_left _ hx);have hl':l'.length=m:=by simpa using hl
  obtain⟨e,hi⟩:=ih l' hl' (by omega) hok';have ok:=(zfo l' (OkM.new c) hok').1;have ok2:=(zfo (l'++[s]) (OkM.new c) hok).1;have pj:∀n,(zb8 (newM c) (l'++[s])).1.ns[i]? =some n→_:=fun n hn=>zjh c (l:=l'++[s]) (by omega) hok (i:=i) (n:=n) hn
  rw[zv3];have q:=congrArg Prod.fst (zd0 s l' (newM c));simp only at q;rw[q]at ok2 pj⊢;generalize(zb8 (newM c) l').1=M at ok ok2 pj e hi⊢;generalize zq7 c i k l'=z at e hi⊢;obtain⟨z1,z2⟩:=z;simp only at e hi;subst e;refine⟨rfl,fun n hn=>?_⟩;have p2:=pj n hn;refine⟨p2.1.xs,p2.2,?_⟩;simp only[zon,hn,qlh];exact(qa7 ok ok2 hi hn p2.1.xs p2.2).2
theorem qxx (c:Cfg)(i:Nat)(k:Key){l:List MStep}{s:MStep}(hl:l.length<100000)(hs:∀s∈l,OkSt s)(hs':OkSt s){n:Node}(hn:(za2 (zb8 (newM c) l).1 s).1.ns[i]? =some n){r:Res}(hr:getR (zj1 n.side) k=some r):(zq7 c i k l).2≤r.ver:=by
 have hi:=(qa8 c i k l.length l rfl (by omega) hs).2;have ok:=(zfo l (OkM.new c) hs).1;have hok:∀y∈l++[s],OkSt y:=fun y hy=>(List.mem_append.1 hy).elim (hs y) fun q=>by rw[List.mem_singleton.1 q];exact hs'
 have ok2:=(zfo (l++[s]) (OkM.new c) hok).1;have pj:∀n,(zb8 (newM c) (l++[s])).1.ns[i]? =some n→_:=fun n hn=>zjh c (l:=l++[s]) (by simp;omega) hok (i:=i) (n:=n) hn
 have q:=congrArg Prod.fst (zd0 s l (newM c));simp only at q;rw[q]at ok2 pj;have p2:=pj n hn;have:=(qa7 ok ok2 hi hn p2.1.xs p2.2).1;have sh:=ztg p2.1.xs;rw[sh.1,sh.2]at hr;exact this.c r (mem_reachR.1 (zce hr)).1 (zfs hr)
end Go.G
namespace Go.Proofs.YtjoaclgkjhncjaaGreatDoor
open Go.AI Go.G
set_option maxRecDepth 20000
set_option maxHeartbeats 8000000
theorem and3 (r:Int):∃j:Nat,j≤3∧andK .i64 r 3=j:=by
 have h:(BitVec.ofInt (IntKind.bits .i64) r&&&BitVec.ofInt (IntKind.bits .i64) 3).toNat≤3:=by
  rw[BitVec.toNat_and];exact Nat.le_trans Nat.and_le_right (by decide)
 simp only[andK];generalize(BitVec.ofInt (IntKind.bits .i64) r&&&BitVec.ofInt (IntKind.bits .i64) 3).toNat=q at h;exact⟨q,h,zab (by omega) (by omega)⟩
theorem shownZ :((zh9 zSideL).map (·.l)).getD []=[]∧OkX zSideL:=by
 refine⟨by decide+kernel,?_⟩;exact⟨⟨by simp[zSideL],by simp[zSideL]⟩,by simp[zSideL],⟨by simp[zSideL],by simp[zSideL]⟩,by simp[zSideL],by simp[zSideL],by simp[zSideL]⟩
theorem zv2 (c:Cfg)(i:Nat)(k:Key):zq7 c i k []=(newM c,-1):=rfl
theorem qq7 (c:Cfg)(l:List MStep)(q_:Key)(i_:Int)(ha:∀s∈l,OkRs s.adds)(hl:l.length≤9223372036854775807)(hf:zdj l=true):CtJ errG Tryz.prog 3 [st (cfgC c),lst (l.map zaf),st (keyC q_),int i_] [] [] (bool true) []:=by
 obtain⟨h60,hs⟩:=zoq hf;obtain⟨j,hj,ej⟩:=and3 i_;rcases zpk c with hk|hk|hk|hk
 all_goals
  refine CtJ.B errK Tryz.func3 mixed 9999 400 ?_;simp;refine CI.j [] zi8 Tryz.call7 9999 ?_;simp;refine CI.p (znv l ha hl) Tryz.call8 9999 ?_ (ha:=by simp[hf]);simp[hf];refine CI.p (zo0 c) Tryz.call10 9999 ?_;simp;refine CI.cc [] (qbs c) Tryz.call9 9999 ?_ (ha:=by simp[hk,ndL]) (hn:=by constructor<;>simp[nmOk,hk,ndL]) (hk:=by simp[hk,ndL]);simp[hk,ndL];refine CI.p (zs7 l (by omega)) Tryz.call11 9999 ?_;simp;refine LoopI.U mixed (l) (fun km=>[(3,int i_),(6,.ptr 128 0),(9,bool true),(10,.ptr 704 0),(11,lst (l.map zaf)),(12,int (zq7 c j q_ (l.take km.1)).2),(13,int km.1)]) (fun km=>BD 704 (zb8 (newM c) (l.take km.1)).1 (ndL (zb8 (newM c) (l.take km.1)).1 0 (zaj c))++[(128,.cells ((keyC q_).map .d) 26)]) 1152 [] (by constructor<;>simp[hk,ndL,zv2,zgm]) ?_;rintro⟨km,hk1m⟩ Bm hBm;refine CI.run 9999 400 rfl ?_;simp[hk,ndL,zv2,zgm];refine sBI (fun hm=>?_) (fun hm=>?_)
  ·have hkm:km<(l).length:=by simpa using hm
   obtain⟨s,hxm,hrm,hmm,htm,hdm⟩:=inL hkm;have hwm:=wr (k:=km) (by omega);simp only[hm];simp[hrm,hwm];have okl:∀s∈l.take km,OkSt s:=fun s hm=>hs s (List.mem_of_mem_take hm);have q:=zfo (M:=newM c) (l.take km) (OkM.new c) okl;have hq:(l.take km).length≤60:=by simp;omega
   have hl4:zaj c≤4:=by omega
   have hn:(newM c).ns.length=zaj c:=by simp[newM]
   have ra:=(qa8 c j q_ (l.take km).length (l.take km) rfl (by omega) okl).1;have rs:=fun n hn r hr=>qxx c j q_ (l:=l.take km) (s:=s) (by omega) okl (hs s hmm) (n:=n) hn (r:=r) hr
   have sn:=zv3 c j q_ (l.take km) s;have ps:=congrArg Prod.fst (zd0 s (l.take km) (newM c));have st:=q.1.step (hs s hmm);have sl:=(stepM_len q.1 s).trans (q.2.trans hn);simp only at ps;generalize zq7 c j q_ (l.take km)=z at ra rs sn⊢;obtain⟨z1,z2⟩:=z;simp only[zon]at ra rs sn;subst ra;refine CI.j [704,705,706,707,708,709] (zs8 (zb8 (newM c) (l.take km)).1 s _ (q.2.trans hn) q.1 (by omega) (hs s hmm)) Tryz.call12 9999 ?_ (ha:=by simp[hk,ndL]) (hn:=by constructor<;>simp[nmOk,hk,ndL]) (hk:=by simp[hk,ndL]);simp[hk,ndL];generalize(zb8 (newM c) (l.take km)).1=M at rs sn ps st sl⊢;generalize(za2 M s).1=N at rs sn ps st sl⊢;by_cases hj2:j<zaj c
   ·obtain⟨n,hn1⟩:∃n,N.ns[j]? =some n:=⟨_,List.getElem?_eq_getElem (by omega)⟩;have on:=st.ok n (List.mem_of_getElem? hn1);refine CI.cc [704,705,706,707,708,709] (qa0 N.c N.p N.lost (ndL N 0 (zaj c)) _ j n (by rw[zdp];omega) (qmh sl hn1) ej) Tryz.call13 9999 ?_ (ha:=by simp[hk,ndL,ej]) (hn:=by constructor<;>simp[nmOk,hk,ndL,ej]) (hk:=by simp[hk,ndL,ej]);simp[hk,ndL,ej];obtain⟨L,hL⟩:∃L,zj1 n.side=L:=⟨_,rfl⟩;have hL':=hL;unfold zj1 at hL';have ll:=zvq on.d.x;rw[hL']at ll;have rsn:=rs n hn1;rw[hL]at rsn;rw[hn1,show qlh (some n) q_ z2=zvs n q_ z2 from rfl]at sn;refine CI.p (ztf n.side on.d.x) Tryz.call14 9999 ?_ (ha:=by simp[hL']);simp[hL'];refine CI.p (qee L q_ (by omega)) Tryz.call15 9999 ?_;simp;cases hg:getR L q_ with
    |none=>
     rw[qdn (by rw[hL];exact hg)]at sn;simp[hg];refine hBm _ ⟨km+1,by omega⟩ [] ?_ (by simp;omega);constructor<;>simp[hwm,htm,sn,ps,hk,ndL]
    |some r=>
     have nl:¬r.ver<z2:=by have:=rsn r hg;omega
     rw[qdm (by rw[hL];exact hg)]at sn;simp[hg,nl];refine hBm _ ⟨km+1,by omega⟩ [] ?_ (by simp;omega);constructor<;>simp[hwm,htm,sn,ps,hk,ndL]
   ·have hn0:N.ns[j]? =none:=List.getElem?_eq_none_iff.2 (by omega);rw[hn0,show qlh none q_ z2=z2 from rfl]at sn;refine CI.cc [704,705,706,707,708,709] (qqq N.c N.p N.lost (ndL N 0 (zaj c)) j (by rw[zdp];omega) (by rw[zdp];omega) (by rw[zdp];omega)) Tryz.call13 9999 ?_ (ha:=by simp[hk,ndL,ej]) (hn:=by constructor<;>simp[nmOk,hk,ndL,ej]) (hk:=by simp[hk,ndL,ej]);simp[hk,ndL,ej];refine CI.p (ztf zSideL shownZ.2) Tryz.call14 9999 ?_ (ha:=by simp[shownZ.1]);simp[shownZ.1];have g0:getR [] q_=none:=rfl;refine CI.p (qee [] q_ (by simp)) Tryz.call15 9999 ?_ (ha:=by simp[g0]);simp[g0];refine hBm _ ⟨km+1,by omega⟩ [] ?_ (by simp;omega);constructor<;>simp[hwm,htm,sn,ps,hk,ndL]
  ·have hklm:km=(l).length:=by simp at hm;omega
   subst hklm;simp only[hm];simp[List.take_length,List.drop_length];first| (refine⟨[],?_,?_,?_,?_,?_,?_,?_⟩<;>simp[nmF,inB];done)| (refine⟨by decide+kernel,?_⟩;refine⟨[],?_,?_,?_,?_,?_,?_,?_⟩<;>simp[nmF,inB])
attribute [simp] Tryz.ntmps3 Tryz.results3
theorem qlq (c:Cfg)(l:List MStep)(q_:Key)(i_:Int)(ha:∀s∈l,OkRs s.adds)(hl:l.length≤9223372036854775807)(hf:zdj l=false):CtJ errG Tryz.prog 3 [st (cfgC c),lst (l.map zaf),st (keyC q_),int i_] [] [] (bool true) []:=by
 refine CtJ.B errK Tryz.func3 mixed 9999 400 ?_;simp;refine CI.j [] zi8 Tryz.call7 9999 ?_;simp;refine CI.p (znv l ha hl) Tryz.call8 9999 ?_ (ha:=by simp[hf]);simp[hf];first|exact fin0 (by simp[hf]) rfl|exact zaa (by simp[hf])
theorem zzk (c:Cfg)(l:List MStep)(q_:Key)(i_:Int)(h:l.length≤9223372036854775807∧∀s∈l,OkMA s)(_:nB q_.name):CtJ errG Tryz.prog 3 [st (cfgC c),lst (l.map zaf),st (keyC q_),int i_] [] [] (bool true) []:=by
 have hl:=h.1;have ha:∀s∈l,OkRs s.adds:=fun s hs=>(h.2 s hs).adds;by_cases hf:zdj l=true
 ·exact qq7 c l q_ i_ ha hl hf
 ·exact qlq c l q_ i_ ha hl (by simpa using hf)
end Go.Proofs.YtjoaclgkjhncjaaGreatDoor
