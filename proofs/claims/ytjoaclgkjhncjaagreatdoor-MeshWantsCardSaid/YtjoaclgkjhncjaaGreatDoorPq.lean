/-
  LAYERS 10 to 12, 18 to 24: records, links, snapshots, requests, and a mesh, plainly.
-/
import Derived.Test.YtjoaclgkjhncjaaGreatDoorPs
set_option linter.unusedSimpArgs false
set_option linter.unusedVariables false
namespace Go.G
open Go.AI
def numF :Nat→Nat→List UInt8
 |0,_=>[]
 |f+1,n=>if n<128 then [UInt8.ofNat n]else UInt8.ofNat (n%128+128)::numF f (n/128)
def bndN (n:Int):Int:=max 0 (min n 2147483647)
def numB (n:Int):List UInt8:=numF 5 (bndN n).toNat
def zdc (s:Str):List UInt8:=numB (bs s).length++bs s
def zaq {α:Type}(l:List α)(lay:α→List UInt8):List UInt8:=numB l.length++l.flatMap lay
def zb7 (w:Weight):List UInt8:=zdc w.cluster++numB w.w
def ruleBy (r:Rule):List UInt8:=zdc r.host++zdc r.pre++zaq r.split zb7
def zge (r:Res):List UInt8:=
 if r.kind=0 then numB r.port++zdc r.to else if r.kind=1 then zaq r.rules ruleBy else if r.kind=2 then zdc r.to else zaq r.hosts numB
def resB (r:Res):List UInt8:=numB r.kind++zdc r.name++numB r.ver++zge r
def zct (k:Key):List UInt8:=numB k.kind++zdc k.name
def zhg (m:Mark):List UInt8:=zct m.k++numB m.ver
def zg2 (f:Frame):List UInt8:=
 if f.type=0 then zaq f.have_ zhg
 else if f.type=1 then numB f.kind++numB f.nonce++zaq f.adds resB++zaq f.gone zct
 else if f.type=2 then numB f.kind++numB f.nonce++numB f.err++numB f.turn++zaq f.held zct
 else numB f.turn++zaq f.held zct
def putB (f:Frame):List UInt8:=numB f.type++numB f.epoch++zg2 f
def zn2 (l:List UInt8):List UInt8:=numB l.length++l
def zio (f:Frame):List UInt8:=zn2 (putB f)
theorem qbq :∀(f n:Nat),(numF f n).length≤f
 |0,_=>Nat.le_refl _
 |f+1,n=>by
  unfold numF;split
  ·simp
  ·have:=qbq f (n/128);simp;omega
theorem zad (n:Int):(numB n).length≤5:=qbq _ _
theorem zp7 (f n:Nat)(h:n<128):numF (f+1) n=[UInt8.ofNat n]:=by simp[numF,h]
theorem zwt (f n:Nat)(h:¬n<128):numF (f+1) n=UInt8.ofNat (n%128+128)::numF f (n/128):=by simp[numF,h]
theorem qap (n:Nat)(h:n<256):((UInt8.ofNat n).toNat:Int)=n:=by
 simp[UInt8.toNat_ofNat];omega
theorem qff (n:Int):IntKind.wrap .u8 n=n%256:=rfl
theorem qv5 (n:Nat)(h:n<2^64):(BitVec.ofInt 64 (n:Int)).toNat=n:=by
 rw[BitVec.ofInt_natCast,BitVec.toNat_ofNat,Nat.mod_eq_of_lt h]
theorem or64 (a b:Nat)(ha:a<2^62)(hb:b<2^62):orK .i64 (a:Int) (b:Int)=((a|||b:Nat):Int):=by
 have h1:a|||b<2^62:=Nat.or_lt_two_pow ha hb
 unfold orK;show IntKind.wrap .i64 ((BitVec.ofInt 64 (a:Int)|||BitVec.ofInt 64 (b:Int)).toNat:Int)=_;rw[BitVec.toNat_or,qv5 _ (by omega),qv5 _ (by omega)];exact zab (by omega) (by omega)
theorem qvi (m:Nat)(h:m<256):m|||128=m%128+128:=by
 have:∀m:Fin 256,m.val|||128=m.val%128+128:=by decide+kernel
 exact this ⟨m,h⟩
theorem qbo (n:Nat)(h:n≤34359738368):IntKind.wrap .u8 (orK .i64 (n:Int) 128)=((UInt8.ofNat (n%128+128)).toNat:Int):=by
 have e:=or64 n 128 (by omega) (by omega);rw[show((128:Nat):Int)=128 from rfl]at e;rw[e,qap _ (by omega),qff];have:(n|||128)%256=n%128+128:=by
  have h2:=Nat.or_mod_two_pow (a:=n) (b:=128) (n:=8);rw[show(2:Nat)^8=256 from rfl]at h2;rw[h2,show 128%256=128 from rfl,qvi _ (Nat.mod_lt _ (by omega))];omega
 omega
theorem qbp (n:Nat)(h:n<128):IntKind.wrap .u8 (n:Int)=((UInt8.ofNat n).toNat:Int):=by
 rw[qap _ (by omega),qff];omega
theorem qhy (n:Nat):(n:Int).fdiv (2^7)=((n/128:Nat):Int):=by
 rw[show(2:Int)^7=128 from rfl,Int.fdiv_eq_ediv_of_nonneg _ (by omega)];omega
theorem qbu (n:Nat)(h:n<256):zm7 .u8 (n:Int) 128=((n%128:Nat):Int):=by
 have:∀m:Fin 256,zm7 .u8 (m.val:Int) 128=((m.val%128:Nat):Int):=by decide+kernel
 exact this ⟨n,h⟩
theorem qvj (i x y:Nat)(hx:x<2^i)(hs:x+2^i*y<2^62):orK .i64 (x:Int) ((y:Int)*2^i)=((x+2^i*y:Nat):Int):=by
 have e:(y:Int)*2^i=((2^i*y:Nat):Int):=by push_cast;exact Int.mul_comm _ _
 rw[e,or64 _ _ (by omega) (by omega)];congr 1
 rw[Nat.or_comm,←Nat.two_pow_add_eq_or_of_lt hx];omega
theorem qn3 (n:Int):(if 0<(if 2147483647<n then 2147483647 else n)then(if 2147483647<n then(2147483647:Int)else n)else 0)=bndN n:=by
 unfold bndN;omega
theorem zo3 (n:Int):∃m:Nat,bndN n=m∧m≤2147483647∧numB n=numF 5 m:=⟨(bndN n).toNat,by unfold bndN;omega,by unfold bndN;omega,rfl⟩
theorem qad {n:Int}(h0:0≤n)(h:n≤2147483647):bndN n=n:=by unfold bndN;omega
theorem zyu (s:Str):zes s=(bs s).map byteC:=by simp[zes,zgt,bs,byteC]
structure NumI (m:Nat)(q:List UInt8)(n f:Nat):Prop where
 e:q++numF f n=numF 5 m
 f1:1≤f
 n1:n<128^f
 l:q.length+f=5
theorem NumI.start {m:Nat}(h:m≤2147483647):NumI m [] m 5:=⟨rfl,by omega,by omega,rfl⟩
theorem NumI.step {m n f:Nat}{q:List UInt8}(h:NumI m q n f)(h1:¬n<128):NumI m (q++[UInt8.ofNat (n%128+128)]) (n/128) (f-1):=by
 obtain⟨f,rfl⟩:∃g,f=g+1:=⟨f-1,by have:=h.f1;omega⟩;have e:=h.e;have l:=h.l;have n1:=h.n1;have f2:1≤f:=by
  rcases Nat.eq_zero_or_pos f with e|e
  ·subst e;omega
  ·exact e
 rw[zwt _ _ h1]at e;refine⟨by simpa using e,by simpa using f2,?_,by simp;omega⟩;simp only[Nat.add_sub_cancel];rw[Nat.pow_succ]at n1;exact Nat.div_lt_of_lt_mul (by rw[Nat.mul_comm];exact n1)
theorem NumI.last {m n f:Nat}{q:List UInt8}(h:NumI m q n f)(h1:n<128):q++[UInt8.ofNat n]=numF 5 m:=by
 obtain⟨f,rfl⟩:∃g,f=g+1:=⟨f-1,by have:=h.f1;omega⟩;have e:=h.e
 rwa[zp7 _ _ h1]at e
theorem NumI.small {m n f:Nat}{q:List UInt8}(h:NumI m q n f):n≤34359738368:=by
 have h1:=h.n1;have h2:=h.l;have:128^f≤128^5:=Nat.pow_le_pow_right (by omega) (by omega);omega
theorem qws (a b:Nat)(h:a≤5):∃M:Nat,(if 5<(a:Int)+b then(5:Int)else a+b)=M∧a≤M∧M≤5∧min M (a+b)=M:=by
 refine⟨min 5 (a+b),?_,?_,?_,?_⟩
 ·split<;>omega
 all_goals omega
structure ParI (m:Nat)(q:List UInt8)(k n0 r:Nat):Prop where
 e:q.drop k=numF (5-k) r
 k4:k≤4
 m:m=n0+2^(7*k)*r
 n0:n0<2^(7*k)
 pos:0<k→0<r
 r:r<128^(5-k)
theorem ParI.start {m:Nat}(h:m≤2147483647):ParI m (numF 5 m) 0 0 m:=⟨rfl,by omega,by simp,by simp,by omega,by show m<128^5;omega⟩
theorem ParI.small {m k n0 r:Nat}{q:List UInt8}(h:ParI m q k n0 r)(hm:m≤2147483647):n0≤2147483647:=by have:=h.m;omega
theorem ParI.last {m k n0 r:Nat}{q:List UInt8}(h:ParI m q k n0 r)(hr:r<128):q[k]? =some (UInt8.ofNat r)∧q.length=k+1:=by
 have e:=h.e;have hk:=h.k4;obtain⟨f,hf⟩:∃f,5-k=f+1:=⟨4-k,by omega⟩;rw[hf,zp7 _ _ hr]at e;have e1:(q.drop k)[0]? =q[k]? :=by simp
 have e2:=congrArg List.length e;simp at e2;rw[e]at e1;exact⟨by simpa using e1.symm,by omega⟩
theorem ParI.more {m k n0 r:Nat}{q:List UInt8}(h:ParI m q k n0 r)(hr:¬r<128):
  q[k]? =some (UInt8.ofNat (r%128+128))∧k+1<q.length∧ParI m q (k+1) (n0+2^(7*k)*(r%128)) (r/128):=by
 have e:=h.e;have hk:=h.k4;obtain⟨f,hf⟩:∃f,5-k=f+1:=⟨4-k,by omega⟩;have hr2:=h.r;rw[hf]at hr2;have f0:1≤f:=by
  rcases Nat.eq_zero_or_pos f with e|e
  ·subst e;omega
  ·exact e
 have e1:(q.drop k)[0]? =q[k]? :=by simp
 rw[hf,zwt _ _ hr]at e;have e3:q.drop (k+1)=numF f (r/128):=by
  have:=congrArg (List.drop 1) e;rw[List.drop_drop]at this;simpa using this
 have hl:0<(numF f (r/128)).length:=by
  obtain⟨g,rfl⟩:∃g,f=g+1:=⟨f-1,by omega⟩;unfold numF;split<;>simp
 have e2:=congrArg List.length e3;simp at e2;rw[e]at e1;have p:2^(7*(k+1))=2^(7*k)*128:=by rw[show 7*(k+1)=7*k+7 by omega,Nat.pow_add]
 refine⟨by simpa using e1.symm,by omega,⟨by rw[e3,show 5-(k+1)=f by omega],by omega,?_,?_,fun _=>by omega,?_⟩⟩
 ·rw[h.m,p,Nat.mul_assoc,Nat.add_assoc,←Nat.mul_add];congr 2;omega
 ·rw[p];have:=h.n0;have h2:r%128<128:=Nat.mod_lt _ (by omega);have h3:2^(7*k)*(r%128)≤2^(7*k)*127:=Nat.mul_le_mul_left _ (by omega);omega
 ·rw[show 5-(k+1)=f by omega];rw[Nat.pow_succ]at hr2;exact Nat.div_lt_of_lt_mul (by rw[Nat.mul_comm];exact hr2)
theorem qoq {k n0 c:Nat}(hk:k≤4)(h0:n0<2^(7*k))(hc:c<128):
  IntKind.wrap .i64 ((c:Int)*2^(7*k))=(c:Int)*2^(7*k)∧orK .i64 (n0:Int) ((c:Int)*2^(7*k))=((n0+2^(7*k)*c:Nat):Int):=by
 have h1:2^(7*k)≤2^28:=Nat.pow_le_pow_right (by omega) (by omega);have h2:2^(7*k)*c≤2^28*127:=Nat.mul_le_mul h1 (by omega);refine⟨?_,qvj _ _ _ h0 (by omega)⟩;have e:(c:Int)*2^(7*k)=((2^(7*k)*c:Nat):Int):=by push_cast;exact Int.mul_comm _ _
 rw[e];exact zab (by omega) (by omega)
theorem zxw (x t:List UInt8):List.drop x.length (List.take ((x.length:Int)+t.length).toNat (List.map byteC x++List.map byteC t))=List.map byteC t:=by
 rw[show((x.length:Int)+t.length).toNat=x.length+t.length by omega,List.take_of_length_le (by simp),List.drop_append_of_le_length (by simp)];simp
theorem qpq (s:Str):(⟨(unB ((bs s).map byteC)).toArray⟩:Str)=s:=by
 have e:unB ((bs s).map byteC)=bs s:=by simp[unB,Function.comp_def]
 rw[e];exact zsq rfl
theorem zdt {α:Type}{lay:α→List UInt8}{m:Nat}:∀(l:List α),(∀y∈l,(lay y).length≤m)→(l.flatMap lay).length≤l.length*m
 |[],_=>by simp
 |x::l,h=>by
  have h1:=h x (by simp);have h2:=zdt l fun y hy=>h y (by simp[hy])
  simp only[List.flatMap_cons,List.length_append,List.length_cons,Nat.add_mul];omega
theorem zhn {α:Type}{lay:α→List UInt8}{m:Nat}(l:List α)(k:Nat)(h:∀y∈l,(lay y).length≤m):((l.take k).flatMap lay).length≤l.length*m:=
 Nat.le_trans (zdt _ fun y hy=>h y (List.mem_of_mem_take hy)) (Nat.mul_le_mul_right _ (by simp;omega))
theorem zb6 {α:Type}{lay:α→List UInt8}{m:Nat}{l:List α}(h:∀y∈l,(lay y).length≤m):(zaq l lay).length≤5+l.length*m:=by
 have h1:=zad l.length;have h2:=zdt l h;simp only[zaq,List.length_append];omega
theorem qkw {α:Type}(l:List α):l.take (if 64<(l.length:Int)then(64:Int)else l.length).toNat=l.take 64:=by
 split
 ·rfl
 ·rw[List.take_of_length_le (by omega),List.take_of_length_le (by omega)]
theorem zvf {α β:Type}(f:α→β)(l:List α):(l.map f).take (if 64<(l.length:Int)then(64:Int)else l.length).toNat=(l.map f).take 64:=by
 have:=qkw (l.map f)
 rwa[List.length_map]at this
theorem qvt (k:Key):okK k=(decide (0≤k.kind)&&decide (k.kind<4)&&zda k.name):=by
 simp only[okK,rngB];congr 2
 exact decide_eq_decide.2 (by omega)
theorem zb3 {n m:Int}(h:n≤m)(h0:0≤m)(hm:m≤2147483647):n≤bndN m:=by rw[qad h0 hm];exact h
theorem zhm {α:Type}{lay:α→List UInt8}{m:Nat}(l:List α)(k:Nat)(h:∀y∈l,(lay y).length≤m):((l.drop k).flatMap lay).length≤l.length*m:=
 Nat.le_trans (zdt _ fun y hy=>h y (List.mem_of_mem_drop hy)) (Nat.mul_le_mul_right _ (by simp))
theorem zli {s:Str}(h:zda s=true):(bs s).length≤12:=by
 simp only[zda,zha,Bool.and_eq_true,decide_eq_true_eq]at h;exact h.1.1.2
theorem qp8 {s:Str}(h:bs s=[]):s=⟨#[]⟩:=zsq h
structure WIn (w:Weight):Prop where
 c:(bs w.cluster).length≤12
 w0:0≤w.w
 w1:w.w≤100
structure RuleIn (r:Rule):Prop where
 host:(bs r.host).length≤40
 pre:(bs r.pre).length≤40
 split:r.split.length≤4
 each:∀w∈r.split,WIn w
structure ResIn (r:Res):Prop where
 k0:0≤r.kind
 k3:r.kind≤3
 name:(bs r.name).length≤12
 v0:0≤r.ver
 v1:r.ver≤2147483647
 p0:0≤r.port
 p1:r.port≤65535
 to:(bs r.to).length≤12
 rules:r.rules.length≤8
 rule:∀x∈r.rules,RuleIn x
 hosts:r.hosts.length≤8
 host:∀h∈r.hosts,0≤h∧h≤2147483647
 noP:r.kind≠0→r.port=0
 noT:r.kind≠0→r.kind≠2→r.to=⟨#[]⟩
 noR:r.kind≠1→r.rules=[]
 noH:r.kind≠3→r.hosts=[]
theorem znm {r:Res}(h:zbd r=0):ResIn r:=by
 obtain⟨h1,h2,h3,h4,h5,-⟩:=zg8 h;obtain⟨k0,k3⟩:=rngB_iff.1 h1;simp only[zco,Bool.and_eq_true,decide_eq_true_eq,List.all_eq_true,zh8]at h3;obtain⟨⟨⟨⟨⟨s1,s2⟩,s3⟩,s4⟩,s5⟩,s6⟩:=h3;simp only[zgx,Bool.and_eq_true,Bool.or_eq_true,decide_eq_true_eq,mayP,mayT,mayR,mayH]at h4;obtain⟨⟨⟨p1,p2⟩,p3⟩,p4⟩:=h4;simp only[zib,Bool.and_eq_true,Bool.or_eq_true,Bool.not_eq_true',mayT,List.all_eq_true,zn7]at h5;obtain⟨n1,n2⟩:=h5;have v:=rngB_iff.1 s1;have p:=rngB_iff.1 s2;refine⟨k0,k3,zli h2,v.1,v.2,p.1,p.2,?_,s3,fun x hx=>?_,s4,fun y hy=>rngB_iff.1 (s5 y hy),fun hk=>?_,fun ha hb=>?_,fun hk=>?_,fun hk=>?_⟩
 ·rcases p2 with q|q
  ·rw[q];simp
  ·rcases n1 with g|g
   ·simp at g;omega
   ·exact zli g
 ·obtain⟨⟨a1,a2⟩,a3⟩:=n2 x hx;obtain⟨b1,b2⟩:=s6 x hx;simp only[zm0,Bool.and_eq_true,decide_eq_true_eq]at a1;simp only[zkh,Bool.and_eq_true,decide_eq_true_eq]at a2;refine⟨a1.1,a2.1.1.2,b1,fun w hw=>?_⟩;have:=rngB_iff.1 (b2 w hw);exact⟨zli (a3 w hw),this.1,this.2⟩
 ·rcases p1 with q|q<;>omega
 ·rcases p2 with q|q
  ·exact qp8 q
  ·rcases q with q|q<;>omega
 ·rcases p3 with q|q
  ·exact List.eq_nil_of_length_eq_zero q
  ·omega
 ·rcases p4 with q|q
  ·exact List.eq_nil_of_length_eq_zero q
  ·omega
theorem zbw {s:Str}{n:Nat}(h:(bs s).length≤n):(zdc s).length≤5+n:=by
 have:=zad (bs s).length;simp only[zdc,List.length_append];omega
theorem zhr {w:Weight}(h:WIn w):(zb7 w).length≤22:=by
 have h1:=zbw h.c;have h2:=zad w.w;simp only[zb7,List.length_append];omega
theorem zmt {r:Rule}(h:RuleIn r):(ruleBy r).length≤183:=by
 have h1:=zbw h.host;have h2:=zbw h.pre;have h3:=zb6 (l:=r.split) (lay:=zb7) (m:=22) fun w hw=>zhr (h.each w hw);have h4:=h.split;simp only[ruleBy,List.length_append];omega
theorem zvh {r:Res}(h:ResIn r):(zge r).length≤1469:=by
 have h1:=zbw h.to;have h2:=zad r.port;have h3:=zb6 (l:=r.rules) (lay:=ruleBy) (m:=183) fun w hw=>zmt (h.rule w hw);have h4:=h.rules;have h5:=zb6 (l:=r.hosts) (lay:=numB) (m:=5) fun w _=>zad w;have h6:=h.hosts;unfold zge
 repeat' split
 all_goals(try simp only[List.length_append]);omega
theorem zk7 {r:Res}(h:ResIn r):(resB r).length≤1496:=by
 have h1:=zvh h;have h2:=zad r.kind;have h3:=zbw h.name;have h4:=zad r.ver;simp only[resB,List.length_append];omega
theorem qb3 {k:Key}(h:okK k=true):0≤k.kind∧k.kind≤3∧(bs k.name).length≤12:=by
 simp only[okK,Bool.and_eq_true]at h;have:=rngB_iff.1 h.1;exact⟨this.1,this.2,zli h.2⟩
theorem zd7 {k:Key}(h:okK k=true):(zct k).length≤22:=by
 have h1:=zad k.kind;have h2:=zbw (qb3 h).2.2;simp only[zct,List.length_append];omega
theorem zlm {m:Mark}(h:okK m.k=true):(zhg m).length≤27:=by
 have h1:=zd7 h;have h2:=zad m.ver;simp only[zhg,List.length_append];omega
theorem zoo {f:Frame}(h:OkF f):(putB f).length≤99000:=by
 obtain⟨a1,a2,a3,a4,-⟩:=zcv h.small;have hn:=h.named;simp only[zcp,Bool.and_eq_true,List.all_eq_true]at hn;have b1:=zb6 (l:=f.adds) (lay:=resB) (m:=1496) fun r hr=>zk7 (znm (h.adds r hr));have b2:=zb6 (l:=f.gone) (lay:=zct) (m:=22) fun r hr=>zd7 (hn.1.1 r hr);have b3:=zb6 (l:=f.held) (lay:=zct) (m:=22) fun r hr=>zd7 (hn.1.2 r hr);have b4:=zb6 (l:=f.have_) (lay:=zhg) (m:=27) fun r hr=>zlm (hn.2 r hr);have c1:=zad f.type;have c2:=zad f.epoch;have c3:=zad f.kind;have c4:=zad f.nonce;have c5:=zad f.err;have c6:=zad f.turn;unfold putB zg2;simp only[List.length_append]
 repeat' split
 all_goals(try simp only[List.length_append]);omega
theorem qd1 {n:Int}(h0:0≤n)(h:n<128):numB n=[UInt8.ofNat n.toNat]:=by
 obtain⟨m,e0,e1,e2⟩:=zo3 n;rw[qad h0 (by omega)]at e0;subst e0;rw[e2,zp7 _ _ (by omega)];rfl
structure FrIn (f:Frame):Prop where
 ty:f.type=0∨f.type=1∨f.type=2∨f.type=3
 k0:0≤f.kind
 k3:f.kind≤3
 e0:0≤f.epoch
 e1:f.epoch≤2147483647
 n0:0≤f.nonce
 n1:f.nonce≤2147483647
 t0:0≤f.turn
 t1:f.turn≤2147483647
 r0:0≤f.err
 r1:f.err≤15
 la:f.adds.length≤64
 lg:f.gone.length≤64
 lh:f.have_.length≤64
 ld:f.held.length≤64
 gone:∀k∈f.gone,okK k=true
 held:∀k∈f.held,okK k=true
 have_:∀m∈f.have_,okK m.k=true∧0≤m.ver∧m.ver≤2147483647
 adds:∀r∈f.adds,zbd r=0
 s0:f.type=0→f.kind=0∧f.nonce=0∧f.turn=0∧f.adds=[]∧f.gone=[]∧f.err=0∧f.held=[]
 s1:f.type=1→f.turn=0∧f.err=0∧f.have_=[]∧f.held=[]
 s2:f.type=2→f.adds=[]∧f.gone=[]∧f.have_=[]
 s3:f.type=3→f.kind=0∧f.nonce=0∧f.adds=[]∧f.gone=[]∧f.err=0∧f.have_=[]
theorem qwr {f:Frame}(h:OkF f):FrIn f:=by
 obtain⟨a1,a2,a3,a4,a5,a6,a7,a8,a9⟩:=zcv h.small;have hn:=h.named;simp only[zcp,Bool.and_eq_true,List.all_eq_true]at hn;have hk:=rngB_iff.1 h.kind;have b6:=rngB_iff.1 a6;have b7:=rngB_iff.1 a7;have b8:=rngB_iff.1 a8;have b9:=rngB_iff.1 a9;have hs:=of_decide_eq_true h.shaped;obtain⟨ty,ep,k,n,t,ad,go,er,hv,hd⟩:=f;refine⟨rng3 h.type,hk.1,hk.2,b6.1,b6.2,b7.1,b7.2,b8.1,b8.2,b9.1,b9.2,a1,a2,a3,a4,hn.1.1,hn.1.2,fun m hm=>⟨hn.2 m hm,rngB_iff.1 (a5 m hm)⟩,h.adds,?_,?_,?_,?_⟩;all_goals
  intro h0;simp only at h0;subst h0;simp[zjy,zFrame]at hs;simp[hs]
structure RLk where
 epoch:Int
 q:List (List UInt8)
@[simp] def txC (b:List UInt8):List D:=[lD (b.map byteC)]
@[simp] theorem lenAll_tx (l:List (List UInt8)):zb2 (l.map txC) 1=True:=zbv (f:=txC) (n:=1) (fun _=>rfl) l
@[simp] def rlkC (l:RLk):List D:=[iD l.epoch,lD (l.q.map txC)]
def zpq (l:RLk):Bool:=rngB l.epoch 2147483647&&decide (l.q.length≤32)
def zb1 (l:RLk):RLk:=if zpq l then l else⟨0,[]⟩
def qgk (l:RLk)(b:List UInt8):RLk×Int:=if 32≤l.q.length then(l,8)else(⟨l.epoch,l.q++[b]⟩,0)
def ztj (l:RLk)(b:List UInt8):RLk×Int:=qgk (zb1 l) b
def placeK (l:RLk)(i:Int):Nat:=((max 0 i).tmod l.q.length).toNat
def zrq (l:RLk)(i:Int):RLk×List UInt8×Int:=if l.q=[]then(l,[],10)else(⟨l.epoch,l.q.take (placeK l i)++l.q.drop (placeK l i+1)⟩,l.q.getD (placeK l i) [],0)
def zpa (l:RLk)(i:Int):RLk×List UInt8×Int:=zrq (zb1 l) i
def qel (l:RLk)(i:Int):RLk×Int:=((zpa l i).1,(zpa l i).2.2)
def zyi (l:RLk)(i:Int):RLk×Int:=if(zb1 l).q=[]then(zb1 l,10)else ztj (zb1 l) ((zb1 l).q.getD (placeK (zb1 l) i) [])
def qis (l:RLk)(i:Int):RLk×Int:=if(zb1 l).q=[]then(zb1 l,10)else ztj (zpa l i).1 (zpa l i).2.1
def qba (l:RLk):RLk×Int:=if(zb1 l).epoch=2147483647 then(zb1 l,14)else(⟨(zb1 l).epoch+1,[]⟩,0)
structure OkLk (l:RLk):Prop where
 len:l.q.length≤1000000
 q:∀b∈l.q,b≠[]∧b.length≤200000
theorem OkLk.sound {l:RLk}(h:OkLk l):OkLk (zb1 l):=by
 unfold zb1;split
 ·exact h
 ·exact⟨by simp,by simp⟩
theorem zmo (l:RLk):(zb1 l).q.length≤32:=by
 unfold zb1;split
 ·rename_i h;simp only[zpq,Bool.and_eq_true,decide_eq_true_eq]at h;exact h.2
 ·simp
theorem qdj (l:RLk):0≤(zb1 l).epoch∧(zb1 l).epoch≤2147483647:=by
 unfold zb1;split
 ·rename_i h;simp only[zpq,Bool.and_eq_true]at h;exact rngB_iff.1 h.1
 ·simp
theorem saneK_iff {l:RLk}:zpq l=true↔(0≤l.epoch∧l.epoch≤2147483647)∧l.q.length≤32:=by simp[zpq,rngB_iff]
theorem zlc {l:RLk}(i:Int)(h:l.q≠[]):placeK l i<l.q.length:=by
 have h1:0<l.q.length:=List.length_pos_iff.2 h;unfold placeK;have:=Int.tmod_lt_of_pos (max 0 i) (b:=(l.q.length:Int)) (by omega);have h3:=Int.tmod_nonneg (a:=max 0 i) (l.q.length:Int) (by omega);omega
theorem qhk {l:RLk}(i:Int)(h:l.q≠[]):(max 0 i).tmod (l.q.length:Int)=(placeK l i:Int):=by
 have h1:0<l.q.length:=List.length_pos_iff.2 h;unfold placeK;have h3:=Int.tmod_nonneg (a:=max 0 i) (l.q.length:Int) (by omega);omega
theorem qgr (l:RLk):zpq l=(decide (0≤l.epoch)&&decide (l.epoch≤2147483647)&&decide ((l.q.length:Int)≤32)):=by
 simp only[zpq,rngB];congr 1
 exact decide_eq_decide.2 (by omega)
theorem qlk {l:RLk}(h:zpq l=false):zb1 l=⟨0,[]⟩:=by simp[zb1,h]
theorem zvz {l:RLk}(h:zpq l=true):zb1 l=l:=by simp[zb1,h]
theorem zmp {l:RLk}{b:List UInt8}(h:32≤l.q.length):qgk l b=(l,8):=if_pos h
theorem zjb {l:RLk}{b:List UInt8}(h:¬32≤l.q.length):qgk l b=(⟨l.epoch,l.q++[b]⟩,0):=if_neg h
theorem qhj {l:RLk}(i:Int)(h:l.q≠[]):(if 0<i then i else 0).tmod (l.q.length:Int)=(placeK l i:Int):=by
 rw[show(if 0<i then i else 0)=max 0 i by omega];exact qhk i h
theorem zrp {e i:Int}:zrq ⟨e,[]⟩ i=(⟨e,[]⟩,[],10):=if_pos rfl
theorem zro {l:RLk}{i:Int}(h:l.q≠[]):zrq l i=(⟨l.epoch,l.q.take (placeK l i)++l.q.drop (placeK l i+1)⟩,l.q.getD (placeK l i) [],0):=if_neg h
theorem OkLk.getD {l:RLk}(h:OkLk l){k:Nat}(hk:k<l.q.length):l.q.getD k []≠[]∧(l.q.getD k []).length≤200000:=by
 have:l.q.getD k []=l.q[k]:=by simp[hk]
 rw[this];exact h.q _ (List.getElem_mem hk)
theorem OkLk.take {l:RLk}(h:OkLk l)(i:Int):OkLk (zrq l i).1:=by
 unfold zrq;split
 ·exact h
 ·refine⟨?_,fun b hb=>?_⟩
  ·have:=h.len;simp;omega
  ·rcases List.mem_append.1 hb with g|g
   ·exact h.q b (List.mem_of_mem_take g)
   ·exact h.q b (List.mem_of_mem_drop g)
def pfx (s p:Str):Bool:=decide ((bs p).length≤(bs s).length)&&decide ((bs s).take (bs p).length=bs p)
def sfx (s p:Str):Bool:=decide ((bs p).length≤(bs s).length)&&decide ((bs s).drop ((bs s).length-(bs p).length)=bs p)
def cutS (s p:Str):Str:=if pfx s p then s.extract (bs p).length (bs s).length else s
def znq (p h:Str):Bool:=
 if(!zm0 p|| !zm0 h||pfx h ⟨#[42]⟩)=true then false else if(decide (p=⟨#[42]⟩)||decide (p=h))=true then true
 else pfx p ⟨#[42]⟩&&decide ((bs (cutS p ⟨#[42]⟩)).length<(bs h).length)&&sfx h (cutS p ⟨#[42]⟩)
def zo7 (p s:Str):Bool:=
 if(!pfx s p|| !zkh p|| !zkh s)=true then false else decide (cutS s p=⟨#[]⟩)||sfx p ⟨#[47]⟩||pfx (cutS s p) ⟨#[47]⟩
def zrk (s:Str):Int:=if s=⟨#[42]⟩then 0 else if pfx s ⟨#[42,46]⟩=true then(bs s).length else 9223372036854775807
def cmpI (a b:Int):Int:=if a<b then-1 else if b<a then 1 else 0
def zki (a b:Str):Int:=cmpI (zrk a) (zrk b)
def qcq (a b:Rule):Bool:=if 0<zki a.host b.host then true else if zki a.host b.host<0 then false else decide ((bs b.pre).length<(bs a.pre).length)
def zRule :Rule:=⟨⟨#[]⟩,⟨#[]⟩,[]⟩
def zbu (may:Rule→Bool)(z:Rule×Bool)(x:Rule):Rule×Bool:=if may x&&(!z.2||qcq x z.1)then(x,true)else z
def zq6 (l:List Rule)(host path:Str):Rule×Bool:=l.foldl (zbu fun r=>znq r.host host&&zo7 r.pre path) (zRule,false)
def zbt (w:Weight):Int:=max 0 (min w.w 100)
def zgi (l:List Weight):Int:=l.foldl (fun n w=>n+zbt w) 0
def zi7 :List Weight→Int→Str×Bool
 |[],_=>(⟨#[]⟩,false)
 |w::l,left=>if left-zbt w<0 then(w.cluster,true)else zi7 l (left-zbt w)
def zo1 (l:List Weight)(draw:Int):Str×Bool:=if zgi l=0 then(⟨#[]⟩,false)else zi7 l ((max 0 draw).tmod (zgi l))
def znu (l:List Int)(draw:Int):Int×Bool:=if l=[]then(0,false)else(l.getD ((max 0 draw).tmod l.length).toNat 0,true)
def zmy (l:List Res)(port:Int):Option Res:=l.find? fun r=>decide (r.kind=0)&&decide (r.port=port)
theorem zz3 (s:Str)(n:Nat):bs (s.extract n (bs s).length)=(bs s).drop n:=by rw[zeo,List.take_length]
theorem bndW (n:Int):(if 0<(if 100<n then 100 else n)then(if 100<n then(100:Int)else n)else 0)=max 0 (min n 100):=by omega
theorem zrm (l:List Weight):0≤zgi l∧zgi l≤100*l.length:=by
 have:∀(l:List Weight) (n:Int),0≤n→n≤l.foldl (fun n w=>n+zbt w) n∧l.foldl (fun n w=>n+zbt w) n≤n+100*l.length:=by
  intro l;induction l with
  |nil=>intro n h;simp
  |cons w l ih=>
   intro n h;have hw:0≤zbt w∧zbt w≤100:=by unfold zbt;omega
   have:=ih (n+zbt w) (by omega);simp only[List.foldl_cons,List.length_cons];omega
 have:=this l 0 (by omega);unfold zgi;omega
@[simp] theorem zRule_h :zRule.host=⟨#[]⟩:=rfl
@[simp] theorem zRule_p :zRule.pre=⟨#[]⟩:=rfl
@[simp] theorem zRule_s :zRule.split=[]:=rfl
theorem zj8 (w:Weight):0≤zbt w∧zbt w≤100:=by unfold zbt;omega
structure ChI (l:List Weight)(n0:Int)(k:Nat)(left:Int):Prop where
 e:zi7 l n0=zi7 (l.drop k) left
 l0:0≤left
 l1:left≤n0
theorem qi4 {l:List Int}(i:Int)(h:l≠[]):∃k:Nat,(if 0<i then i else 0).tmod (l.length:Int)=(k:Int)∧k<l.length∧znu l i=(l.getD k 0,true):=by
 have h1:0<l.length:=List.length_pos_iff.2 h;rw[show(if 0<i then i else 0)=max 0 i by omega];have h2:=Int.tmod_lt_of_pos (max 0 i) (b:=(l.length:Int)) (by omega);have h3:=Int.tmod_nonneg (a:=max 0 i) (l.length:Int) (by omega);refine⟨((max 0 i).tmod l.length).toNat,by omega,by omega,?_⟩;unfold znu;rw[if_neg h]
theorem zrl :zgi []=0:=rfl
theorem qc7 (l:List Weight)(w:Weight):zgi (l++[w])=zgi l+zbt w:=by simp[zgi]
theorem ChI.step {l:List Weight}{n0 left:Int}{k:Nat}{w:Weight}(h:ChI l n0 k left)(hd:l.drop k=w::l.drop (k+1)):
  (left-zbt w<0→zi7 l n0=(w.cluster,true))∧(¬left-zbt w<0→ChI l n0 (k+1) (left-zbt w)):=by
 have e:=h.e;have hb:=zj8 w;have l1:=h.l1;rw[hd]at e;refine⟨fun h1=>?_,fun h1=>⟨?_,by omega,by omega⟩⟩
 ·rw[e];simp[zi7,h1]
 ·rw[e];simp[zi7,h1]
theorem ChI.last {l:List Weight}{n0 left:Int}(h:ChI l n0 l.length left):zi7 l n0=(⟨#[]⟩,false):=by
 have:=h.e;rw[List.drop_length]at this;exact this
def zdm (l:List Snap)(id:Int):Nat→Int
 |0=> -1
 |k+1=>match l[k]? with
  |some s=>if s.id=id then k else zdm l id k
  |none=>zdm l id k
def zcb (p:Pins)(id:Int):Int:=zdm p.snaps id p.snaps.length
def pinQ (p:Pins):Pins×Int×Int:=match p.snaps.getLast? with
 |none=>(p,0,10)
 |some s=>if s.pins=10000 then(p,0,14)else(⟨p.next,p.snaps.dropLast++[{s with pins:=s.pins+1}]⟩,s.id,0)
def pinP (p:Pins):Pins×Int×Int:=pinQ (za3 p)
def relQ (p:Pins)(id:Int):Pins×Int:=
 if zcb p id<0 then(p,10)else
  match p.snaps[(zcb p id).toNat]? with
  |none=>(p,10)
  |some s=>if s.pins=0 then(p,15)else
   if¬zcb p id=(p.snaps.length:Int)-1∧s.pins-1=0 then(⟨p.next,p.snaps.eraseIdx (zcb p id).toNat⟩,0)
   else(⟨p.next,p.snaps.set (zcb p id).toNat {s with pins:=s.pins-1}⟩,0)
def relP (p:Pins)(id:Int):Pins×Int:=relQ (za3 p) id
def getQ (p:Pins)(id:Int):Option (List Res):=if zcb p id<0 then none else(p.snaps[(zcb p id).toNat]?).map Snap.l
def getP (p:Pins)(id:Int):Option (List Res):=getQ (za3 p) id
theorem zkg (l:List Snap)(id:Int):∀k,-1≤zdm l id k∧zdm l id k<k
 |0=>by simp[zdm]
 |k+1=>by
  have:=zkg l id k;unfold zdm;cases l[k]? with
  |none=>simp only;omega
  |some s=>simp only;split<;>omega
theorem qvl {p:Pins}(h:OkPins p):OkPins (pinP p).1:=by
 unfold pinP;have h':=h.sound;generalize za3 p=q at*;unfold pinQ;split
 ·exact h'
 ·rename_i s hs;split
  ·exact h'
  ·have hl:q.snaps≠[]:=by intro e;rw[e]at hs;simp at hs
   have hmem:s∈q.snaps:=List.mem_of_getLast? hs;refine⟨fun x hx=>?_,h'.next,?_⟩
   ·rcases List.mem_append.1 hx with g|g
    ·exact h'.snaps x (List.dropLast_subset _ g)
    ·simp at g;subst g;exact h'.snaps s hmem
   ·have:=h'.sl;have:=List.length_pos_iff.2 hl;simp;omega
theorem qhs {p:Pins}(id:Int)(h:OkPins p):OkPins (relP p id).1:=by
 unfold relP;have h':=h.sound;generalize za3 p=q at*;unfold relQ;split
 ·exact h'
 ·split
  ·exact h'
  ·rename_i s hs;have hmem:s∈q.snaps:=List.mem_of_getElem? hs;split
   ·exact h'
   ·split
    ·refine⟨fun x hx=>h'.snaps x (List.mem_of_mem_eraseIdx hx),h'.next,?_⟩;have:=h'.sl;have:=List.length_eraseIdx_le q.snaps (zcb q id).toNat;simp only at*;omega
    ·refine⟨fun x hx=>?_,h'.next,by simpa using h'.sl⟩;rcases List.mem_or_eq_of_mem_set hx with g|g
     ·exact h'.snaps x g
     ·subst g;exact h'.snaps s hmem
theorem zjc {n:Int}:∀{l:List Snap} {a:Int},zbb n a l=true→∀s∈l,0≤s.pins
 |[],_,_,s,hs=>by cases hs
 |x::l,a,h,s,hs=>by
  simp only[zbb,Bool.and_eq_true,decide_eq_true_eq]at h;rcases List.mem_cons.1 hs with e|e
  ·subst e;have:=h.1.1.2;split at this<;>omega
  ·exact zjc h.2 s e
theorem qb8 {α β:Type}(l:List α)(f:α→β)(c:β):(l.map f++[c])[l.length]? =some c:=by simp
theorem qlg {α β:Type}(l:List α)(f:α→β)(c d:β):(l.map f++[c]).set l.length d=l.map f++[d]:=by
 rw[List.set_append_right _ _ (by simp)];simp
theorem ze6 {α β:Type}(f:α→β):∀(l:List α) (k:Nat),(l.map f).eraseIdx k=(l.eraseIdx k).map f
 |[],_=>by simp
 |_::_,0=>by simp
 |_::l,k+1=>by simp[ze6 f l k]
def ze9 (s:Side):Side×Int×Int:=({soundX s with p:=(pinP (soundX s).p).1},(pinP (soundX s).p).2.1,(pinP (soundX s).p).2.2)
def endQ (x:Side)(id:Int):Side×List Frame×Int:=
 let q:=relP x.p id
 let y:Side:={x with p:=q.1}
 if(decide (zcw q.1=zcw x.p)|| !y.up||zks y)=true then(y,[],q.2)else(zhs y,[⟨3,y.epoch,0,0,y.turn+1,[],[],0,[],zcw y.p⟩],q.2)
def endX (s:Side)(id:Int):Side×List Frame×Int:=endQ (soundX s) id
structure Ask where
 port:Int
 host:Str
 path:Str
 first:Int
 other:Int
 deriving DecidableEq
structure Ans where
 what:Int
 cluster:Str
 host:Int
 deriving DecidableEq
structure Req where
 a:Ask
 stage:Int
 id:Int
 route:Str
 cluster:Str
 out:Ans
 deriving DecidableEq
def zAns :Ans:=⟨0,⟨#[]⟩,0⟩
def zAsk :Ask:=⟨0,⟨#[]⟩,⟨#[]⟩,0,0⟩
@[simp] def askC (a:Ask):List D:=[iD a.port,sD a.host,sD a.path,iD a.first,iD a.other]
@[simp] def ansC (a:Ans):List D:=[iD a.what,sD a.cluster,iD a.host]
@[simp] def reqC (r:Req):List D:=[iD r.a.port,sD r.a.host,sD r.a.path,iD r.a.first,iD r.a.other,iD r.stage,iD r.id,sD r.route,sD r.cluster,iD r.out.what,sD r.out.cluster,iD r.out.host]
def newR (a:Ask):Req:=⟨a,0,0,⟨#[]⟩,⟨#[]⟩,zAns⟩
def zit (r:Req):Bool:=!(decide (r.stage<0)||decide (5<r.stage)||decide (r.id<0))&&(decide (0<r.id)||decide (r.stage=0)||decide (r.stage=5))
def zec (r:Req):Req:=if zit r then r else newR r.a
def zjt (r:Req):Bool:=!decide ((zec r).stage=5)
structure Work where
 r:Req
 s:Side
 told:List Frame
def zfh (w:Work)(a:Ans):Work:=
 if w.r.stage=0 then{w with r:={w.r with stage:=5,out:=a}}else⟨{w.r with stage:=5,out:=a},(endX w.s w.r.id).1,(endX w.s w.r.id).2.1⟩
def zq1 (w:Work):List Res:=(getP w.s.p w.r.id).getD []
def getW (w:Work)(k:Int)(n:Str):Option Res:=getR (zq1 w) ⟨k,n⟩
def zid (w:Work):Work:=
 if¬(ze9 w.s).2.2=0 then zfh w ⟨0,⟨#[]⟩,0⟩else{w with s:=(ze9 w.s).1,r:={w.r with id:=(ze9 w.s).2.1,stage:=1}}
def zfe (w:Work):Work:=match zmy (zq1 w) w.r.a.port with
 |none=>zfh w ⟨1,⟨#[]⟩,0⟩
 |some x=>{w with r:={w.r with route:=x.to,stage:=2}}
def zk4 (w:Work):Work:=
 let x:=getW w 1 w.r.route
 let u:=zq6 (x.getD zRes).rules w.r.a.host w.r.a.path
 if(!x.isSome|| !u.2)=true then zfh w ⟨2,⟨#[]⟩,0⟩else
 let c:=zo1 u.1.split w.r.a.first
 if c.2=false then zfh w ⟨0,⟨#[]⟩,0⟩else{w with r:={w.r with cluster:=c.1,stage:=3}}
def zh6 (w:Work):Work:=
 let c:=getW w 2 w.r.cluster
 let e:=getW w 3 (c.getD zRes).to
 let h:=znu (e.getD zRes).hosts w.r.a.other
 if(!c.isSome|| !e.isSome|| !h.2)=true then zfh w ⟨0,⟨#[]⟩,0⟩else{w with r:={w.r with out:=⟨3,w.r.cluster,h.1⟩,stage:=4}}
def stepQ (w:Work):Work:=
 if w.r.stage=0 then zid w else if w.r.stage=1 then zfe w else if w.r.stage=2 then zk4 w else if w.r.stage=3 then zh6 w else if w.r.stage=4 then zfh w w.r.out else w
def zeb (r:Req)(s:Side):Work:=stepQ ⟨zec r,soundX s,[]⟩
structure Task where
 n:Int
 r:Req
 deriving DecidableEq
@[simp] def zef (t:Task):List D:=iD t.n::reqC t.r
structure Pool where
 next:Int
 tasks:List Task
 done:List Task
@[simp] def zwe (p:Pool):List D:=[iD p.next,lD (p.tasks.map zef),lD (p.done.map zef)]
structure OkPool (p:Pool):Prop where
 n0:0≤p.next
 n1:p.next≤100000
 lt:p.tasks.length≤64
 ld:p.done.length≤1000
 up:p.tasks.Pairwise (fun a b=>a.n<b.n)
 nd:(p.done.map Task.n).Nodup
 ap:∀t∈p.tasks,∀d∈p.done,t.n≠d.n
 rt:∀t∈p.tasks,1≤t.n∧t.n≤p.next
 rd:∀t∈p.done,1≤t.n∧t.n≤p.next
 run:∀t∈p.tasks,zit t.r=true∧zjt t.r=true
 over:∀t∈p.done,zjt t.r=false
def zgj (p:Pool)(a:Ask):Pool×Int×Int:=
 if 64≤p.tasks.length∨p.next=100000 then(p,0,8)else(⟨p.next+1,p.tasks++[⟨p.next+1,newR a⟩],p.done⟩,p.next+1,0)
def ztt (l:List Task)(t:Task):List Task:=l.drop (l.length-999)++[t]
def pickAt (p:Pool)(draw:Int):Nat:=((max 0 draw).tmod p.tasks.length).toNat
def zei (p:Pool)(s:Side)(draw:Int):Pool×Side×List Frame×Int:=
 match p.tasks[pickAt p draw]? with
 |none=>(p,s,[],10)
 |some t=>
  let w:=zeb t.r s
  if zjt w.r then(⟨p.next,p.tasks.set (pickAt p draw) ⟨t.n,w.r⟩,p.done⟩,w.s,w.told,0)
  else(⟨p.next,p.tasks.eraseIdx (pickAt p draw),ztt p.done ⟨t.n,w.r⟩⟩,w.s,w.told,0)
theorem OkX.withP {s:Side}(h:OkX s){p:Pins}(hp:OkPins p):OkX {s with p:=p}:=⟨h.c,h.cl,h.shown,hp.snaps,hp.next,hp.sl⟩
theorem OkX.begin {s:Side}(h:OkX s):OkX (ze9 s).1:=h.sound.withP (qvl h.sound.pins)
theorem OkX.end {s:Side}(id:Int)(h:OkX s):OkX (endX s id).1:=by
 unfold endX;have h':=h.sound;generalize soundX s=x at*;have h2:=h'.withP (qhs id h'.pins);unfold endQ;dsimp only;split
 ·exact h2
 ·exact⟨h2.c,h2.cl,h2.shown,h2.snaps,h2.next,h2.sl⟩
theorem OkX.done {w:Work}(a:Ans)(h:OkX w.s):OkX (zfh w a).s:=by
 unfold zfh;split
 ·exact h
 ·exact h.end _
theorem OkX.stepQ {w:Work}(h:OkX w.s):OkX (stepQ w).s:=by
 unfold Go.G.stepQ zid zfe zk4 zh6;dsimp only
 repeat' split
 all_goals first
  |exact h
  |exact h.done _
  |exact h.begin
theorem OkX.stepR {s:Side}(r:Req)(h:OkX s):OkX (zeb r s).s:=OkX.stepQ (w:=⟨zec r,soundX s,[]⟩) h.sound
def SnP (p:Pins):Prop:=∀q∈p.snaps,∀r∈q.l,zbd r=0
structure FitR (r:Res):Prop where
 rules:r.rules.length≤1000000
 each:∀x∈r.rules,(bs x.host).length≤1000000∧(bs x.pre).length≤1000000
 split:∀x∈r.rules,x.split.length≤1000000
 hosts:r.hosts.length≤1000000
theorem FitR.zero :FitR zRes:=⟨by simp[zRes],by simp[zRes],by simp[zRes],by simp[zRes]⟩
theorem FitR.of {r:Res}(h:zbd r=0):FitR r:=by
 have h:=znm h;exact⟨by have:=h.rules;omega,fun x hx=>by have:=h.rule x hx;have:=this.host;have:=(h.rule x hx).pre;omega,fun x hx=>by have:=(h.rule x hx).split;omega,by have:=h.hosts;omega⟩
theorem SnP.sound {p:Pins}(h:SnP p):SnP (za3 p):=by
 unfold za3;split
 ·exact h
 ·intro q hq;cases hq
theorem SnP.get {p:Pins}(h:SnP p)(id:Int):∀r∈(getP p id).getD [],zbd r=0:=by
 have h':=h.sound;unfold getP getQ;generalize za3 p=q at h'⊢;split
 ·intro r hr;cases hr
 ·cases e:q.snaps[(zcb q id).toNat]? with
  |none=>intro r hr;cases hr
  |some s=>exact h' s (List.mem_of_getElem? e)
theorem qca {p:Pins}(h:OkPins p)(id:Int):((getP p id).getD []).length≤64:=by
 have h':=h.sound.snaps;unfold getP getQ;generalize za3 p=q at h'⊢;split
 ·simp
 ·cases e:q.snaps[(zcb q id).toNat]? with
  |none=>simp
  |some s=>exact(h' s (List.mem_of_getElem? e)).2
theorem qb9 {l:List Res}(h:∀r∈l,zbd r=0)(k:Key):FitR ((getR l k).getD zRes):=by
 cases e:getR l k with
 |none=>exact .zero
 |some x=>exact .of (h x (zce e))
theorem qgy (l:List Rule)(h s:Str):(zq6 l h s).1=zRule∨(zq6 l h s).1∈l:=by
 unfold zq6;have:∀(m:List Rule) (z:Rule×Bool),(z.1=zRule∨z.1∈l)→(∀x∈m,x∈l)→((m.foldl (zbu fun r=>znq r.host h&&zo7 r.pre s) z).1=zRule∨(m.foldl (zbu fun r=>znq r.host h&&zo7 r.pre s) z).1∈l):=by
  intro m;induction m with
  |nil=>intro z hz _;exact hz
  |cons x m ih=>
   intro z hz hm;rw[List.foldl_cons];refine ih _ ?_ (fun y hy=>hm y (List.mem_cons_of_mem _ hy));unfold zbu;split
   ·exact .inr (hm x List.mem_cons_self)
   ·exact hz
 exact this l _ (.inl rfl) fun _ h=>h
theorem qgz {r:Res}(hr:FitR r)(h s:Str):(zq6 r.rules h s).1.split.length≤1000000:=by
 rcases qgy r.rules h s with e|e
 ·rw[e];simp
 ·exact hr.split _ e
@[simp] def qub (w:Work):List D:=reqC w.r++zc1 w.s++[lD (w.told.map zam)]
theorem SnP.soundX {s:Side}(h:SnP s.p):SnP (Go.G.soundX s).p:=by
 unfold Go.G.soundX;split
 ·exact h
 ·intro q hq;simp[newX]at hq
theorem qaw (r:Req):(zec r).a=r.a:=by unfold zec newR;split<;>rfl
theorem qna {S:List Int}{l:List Task}{k:Nat}{x:Task}(h:(S++l.map Task.n).Nodup)(hr:l[k]? =some x):x.n∉S++(l.take k).map Task.n:=by
 intro hm;obtain⟨hS,hl,hd⟩:=List.nodup_append.1 h;have hxm:x.n∈l.map Task.n:=List.mem_map.2 ⟨x,List.mem_of_getElem? hr,rfl⟩;rcases List.mem_append.1 hm with g|g
 ·exact hd _ g _ hxm rfl
 ·have hk:=(List.getElem?_eq_some_iff.1 hr).1;have e:l.map Task.n=(l.take k).map Task.n++x.n::(l.drop (k+1)).map Task.n:=by
   conv=>lhs;rw[←List.take_append_drop k l,List.map_append]
   rw[List.drop_eq_getElem_cons hk];have:l[k]=x:=by rw[List.getElem?_eq_getElem hk]at hr;exact Option.some.inj hr
   rw[this];rfl
  rw[e]at hl;exact(List.nodup_append.1 hl).2.2 _ g _ List.mem_cons_self rfl
theorem zty {l:List Task}(h:l.Pairwise fun a b=>a.n<b.n):(l.map Task.n).Nodup:=by
 rw[List.nodup_iff_pairwise_ne,List.pairwise_map];exact h.imp fun h=>by omega
theorem qh3 {p:Pool}(h:OkPool p):(p.tasks.map Task.n++p.done.map Task.n).Nodup:=by
 rw[List.nodup_append];refine⟨zty h.up,h.nd,?_⟩;intro a ha b hb e;obtain⟨t,ht,rfl⟩:=List.mem_map.1 ha;obtain⟨d,hd,rfl⟩:=List.mem_map.1 hb;exact h.ap t ht d hd e
@[simp] theorem lenAll_task (l:List Task):zb2 (l.map zef) 13=True:=zbv (f:=zef) (n:=13) (fun _=>rfl) l
theorem qhn (p:Pool)(draw:Int)(h:0<p.tasks.length):(if 0<draw then draw else 0).tmod (p.tasks.length:Int)=(pickAt p draw:Nat)∧pickAt p draw<p.tasks.length:=by
 rw[show(if 0<draw then draw else 0)=max 0 draw by omega];have h2:=Int.tmod_lt_of_pos (max 0 draw) (b:=(p.tasks.length:Int)) (by omega);have h3:=Int.tmod_nonneg (a:=max 0 draw) (p.tasks.length:Int) (by omega);unfold pickAt;omega
theorem znp :∀(L:List Res) (l:List Res) {r:Res},r∈L.foldl zfk l→r∈L∨r∈l
 |[],l,r,h=>.inr h
 |x::L,l,r,h=>by
  rcases znp L _ h with g|g
  ·exact .inl (List.mem_cons_of_mem _ g)
  ·rcases zw1 g with g|g
   ·exact .inl (g▸List.mem_cons_self)
   ·exact .inr g
theorem qm5 {p:Store}(hp:sanS p=true){l:List Res}(hl:l∈p.hist){r:Res}(hr:r∈l):zbd r=0:=by
 obtain⟨i,hi⟩:=List.mem_iff_getElem?.1 hl;have hh:=((zcd p).1 hp);have hc:0≤p.cap:=by rw[hh.1];exact(zo2 _).1
 exact zpb (hh.2.2.acc hc hi).tab hr
theorem qvw {p:Store}(hp:sanS p=true){m:Mark}(hm:okK m.k=true):OkRes (ofM p m):=by
 have hb:OkRes (zrh m):=by
  have h:=(qb3 hm).2.2;exact⟨by simp only[zrh];omega,by simp[zrh],by simp[zrh],by simp[zrh],by simp[zrh]⟩
 unfold ofM zku;cases e:getR ((atS p m.ver).getD []) m.k with
 |none=>exact hb
 |some r=>
  simp only;split
  ·refine ztv ?_;have hr:=zce e;unfold atS at hr;rw[zde hp]at hr;split at hr
   ·cases e2:p.hist[m.ver.toNat]? with
    |none=>rw[e2]at hr;cases hr
    |some l=>rw[e2]at hr;exact qm5 hp (List.mem_of_getElem? e2) hr
   ·cases hr
  ·exact hb
theorem zjk {s:Sess}{p:Store}(f:Frame)(hs:zbr s=true)(ho:OkSess s)(hp:sanS p=true):OkSess (handle s p f).1:=by
 have S:=saneS_iff.1 (zek p f hs);refine⟨⟨⟨by have:=S.hl;omega,?_⟩,by have:=S.dl;omega,qdr p f hs ho.v.push⟩⟩;clear S;unfold handle;rw[zbx hs];unfold zcj;split
 ·exact ho.v.have_.all
 rename_i he;have F:=frameE_zero.1 (Decidable.not_not.1 he);split
 ·exact ho.v.have_.all
 split
 ·unfold zf7;split
  ·exact ho.v.have_.all
  ·intro r hr;rcases znp _ _ hr with g|g
   ·obtain⟨m,hm,rfl⟩:=List.mem_map.1 g;refine qvw hp ?_;have:=F.named;simp only[zcp,Bool.and_eq_true,List.all_eq_true]at this;exact this.2 m hm
   ·cases g
 split
 ·exact ho.v.have_.all
 split
 ·unfold ackH
  repeat' split
  all_goals first
   |exact ho.v.have_.all
   | (intro r hr
      rcases qcv hr with g|g
      ·exact ho.v.have_.all r g
      ·exact ho.v.push.adds.all r g.2)
 ·intro r hr;refine ho.v.have_.all r ?_;simp only[zj5,zai]at hr;split at hr<;>exact hr
theorem zop {s:Sess}{p:Store}(hs:zbr s=true)(ho:OkSess s)(hp:sanS p=true):zbr (pump s p).1=true∧OkSess (pump s p).1∧(∀f∈(pump s p).2.1,za4 f=0∧f.type=1∧f.epoch=s.epoch)∧(pump s p).2.1.length≤1∧(pump s p).1.epoch=s.epoch:=by
 rcases zjg hs p with⟨h1,h2⟩|⟨x,h1,h2,h3,h4,h5⟩
 ·rw[h1,h2];exact⟨hs,ho,by simp,by simp,rfl⟩
 ·have:=zti hs hp h1 h3 h4;rw[h5];have S:=saneS_iff.1 this.tsane;have l1:=S.hl;have l2:=S.dl;refine⟨this.tsane,⟨⟨⟨Nat.le_trans l1 (by omega),fun r hr=>ho.v.have_.all r (this.tview.1▸hr)⟩,Nat.le_trans l2 (by omega),?_⟩⟩,?_,by simp,rfl⟩
  ·rw[this.tpush];exact zf5 this.sane
  ·intro f hf;simp only[List.mem_singleton]at hf;subst hf;exact⟨this.sane,this.type,this.epoch⟩
theorem SnP.pub {p:Pins}(h:SnP p){l:List Res}(hl:∀r∈l,zbd r=0):SnP (zbp p l).1:=by
 have h':=h.sound;unfold zbp;generalize za3 p=q at h'⊢;unfold zdf;split
 ·exact h'
 split
 ·exact h'
 ·intro x hx;rcases List.mem_append.1 hx with g|g
  ·exact h' x (List.mem_filter.1 g).1
  ·simp only[List.mem_singleton]at g;subst g;exact hl
theorem SnP.pin {p:Pins}(h:SnP p):SnP (pinP p).1:=by
 have h':=h.sound;unfold pinP;generalize za3 p=q at h'⊢;unfold pinQ;split
 ·exact h'
 ·rename_i s hs;split
  ·exact h'
  ·intro x hx;rcases List.mem_append.1 hx with g|g
   ·exact h' x (List.dropLast_subset _ g)
   ·simp only[List.mem_singleton]at g;subst g;exact h' s (List.mem_of_getLast? hs)
theorem SnP.rel {p:Pins}(id:Int)(h:SnP p):SnP (relP p id).1:=by
 have h':=h.sound;unfold relP;generalize za3 p=q at h'⊢;unfold relQ;split
 ·exact h'
 split
 ·exact h'
 rename_i s hs;have hmem:s∈q.snaps:=List.mem_of_getElem? hs;split
 ·exact h'
 split
 ·intro x hx;exact h' x (List.mem_of_mem_eraseIdx hx)
 ·intro x hx;rcases List.mem_or_eq_of_mem_set hx with g|g
  ·exact h' x g
  ·subst g;exact h' s hmem
theorem qdb (w:Warm)(a:List Res)(g:List Key):∀r∈(zcr w a g).1.shown,zbd r=0:=by
 obtain⟨h1,h2,_⟩:=saneW_iff.1 (zpd w a g);rw[h2];intro r hr;exact zpb (saneC_iff.1 h1).2.1 (List.mem_filter.1 hr).1
theorem qkx {s:Side}(h:SnP s.p)(f:Frame):SnP (zd4 s f).1.p:=by
 unfold zd4;dsimp only
 repeat' split
 all_goals first
  |exact h
  |exact h.pub (qdb _ _ _)
structure OkD (s:Side):Prop where
 x:OkX s
 n:SnP s.p
theorem OkD.new (l m:Int):OkD (newX l m):=⟨.new l m,by intro q hq;simp[newX]at hq⟩
theorem OkD.sound {s:Side}(h:OkD s):OkD (soundX s):=⟨h.x.sound,h.n.soundX⟩
theorem zuj {p:Pins}(h:OkPins p)(a b c d t e:Int):OkFrame ⟨a,b,c,d,t,[],[],e,[],zcw p⟩:=⟨⟨by simp,by simp⟩,by simp,by simp,by have:=zow h;simp only;omega⟩
theorem OkD.side {s:Side}(h:OkD s)(f:Frame):OkD (zea s f).1∧(∀g∈(zea s f).2.1,OkFrame g)∧(zea s f).2.1.length≤1:=by
 unfold zea;have h':=h.sound;generalize soundX s=x at h'⊢;unfold zgw;by_cases h0:zbo x f=0
 ·have F:=frameE_zero.1 (zgk h0);have ha:=zf5 (zgk h0);have hst:=h'.x.step ha.adds (show f.adds.length≤1000 by have:=(zcv F.small).1;omega);have hsn:=qkx h'.n f;dsimp only
  repeat' split
  all_goals first
   |exact⟨h',by simp,by simp⟩
   | (refine⟨⟨⟨hst.c,hst.cl,hst.shown,hst.snaps,hst.next,hst.sl⟩,hsn⟩,?_,by simp[ackX]⟩
      intro g hg;simp only[ackX,List.mem_singleton]at hg;subst hg;exact zuj hst.pins ..)
   | (refine⟨⟨⟨h'.x.c,h'.x.cl,h'.x.shown,h'.x.snaps,h'.x.next,h'.x.sl⟩,h'.n⟩,?_,by simp[ackX]⟩
      intro g hg;simp only[ackX,List.mem_singleton]at hg;subst hg;exact zuj h'.x.pins ..)
 ·rw[if_pos h0];exact⟨h',by simp,by simp⟩
theorem OkD.connect {s:Side}(h:OkD s)(ep:Int):OkD (zao s ep).1∧(∀g∈(zao s ep).2.1,OkFrame g)∧(zao s ep).2.1.length≤2:=by
 unfold zao;have h':=h.sound;generalize soundX s=x at h'⊢;unfold zcf;split
 ·exact⟨h',by simp,by simp⟩
 split
 ·exact⟨h',by simp,by simp⟩
 ·refine⟨⟨⟨h'.x.c,h'.x.cl,h'.x.shown,h'.x.snaps,h'.x.next,h'.x.sl⟩,h'.n⟩,?_,by simp⟩;intro g hg;simp only[List.mem_cons,List.not_mem_nil,or_false]at hg;rcases hg with rfl|rfl
  ·exact⟨⟨by simp[zlz],by simp[zlz]⟩,by simp[zlz],by have:=h'.x.cl;simp[zlz,zhs];omega,by simp[zlz]⟩
  ·exact zuj (p:=x.p) h'.x.pins ..
theorem OkD.begin {s:Side}(h:OkD s):OkD (ze9 s).1:=⟨h.x.begin,h.sound.n.pin⟩
theorem OkD.end {s:Side}(h:OkD s)(id:Int):OkD (endX s id).1∧(∀g∈(endX s id).2.1,OkFrame g)∧(endX s id).2.1.length≤1:=by
 refine⟨⟨h.x.end id,?_⟩,?_⟩
 ·unfold endX;have h':=h.sound.n.rel id;generalize soundX s=x at h'⊢;unfold endQ;dsimp only;split<;>exact h'
 ·unfold endX;have h':=qhs id h.sound.x.pins;generalize soundX s=x at h'⊢;unfold endQ;dsimp only;split
  ·exact⟨by simp,by simp⟩
  ·refine⟨?_,by simp⟩;intro g hg;simp only[List.mem_singleton]at hg;subst hg;exact zuj h' ..
structure OkWk (w:Work):Prop where
 s:OkD w.s
 t:∀g∈w.told,OkFrame g
 l:w.told.length≤1
theorem OkWk.done {w:Work}(a:Ans)(h:OkWk w):OkWk (zfh w a):=by
 unfold zfh;split
 ·exact⟨h.s,h.t,h.l⟩
 ·have:=h.s.end w.r.id;exact⟨this.1,this.2.1,this.2.2⟩
theorem OkWk.stepQ {w:Work}(h:OkWk w):OkWk (stepQ w):=by
 unfold Go.G.stepQ zid zfe zk4 zh6;dsimp only
 repeat' split
 all_goals first
  |exact h
  |exact h.done _
  |exact⟨h.s,h.t,h.l⟩
  |exact⟨h.s.begin,h.t,h.l⟩
theorem OkWk.stepR {s:Side}(r:Req)(h:OkD s):OkWk (zeb r s):=OkWk.stepQ (w:=⟨zec r,soundX s,[]⟩) ⟨h.sound,by simp,by simp⟩
structure OkPl (q:Pool):Prop where
 p:OkPool q
 a:∀t∈q.tasks,(bs t.r.a.host).length≤1000000∧(bs t.r.a.path).length≤1000000
def zPool :Pool:=⟨0,[],[]⟩
theorem OkPl.zero :OkPl zPool:=⟨⟨by simp[zPool],by simp[zPool],by simp[zPool],by simp[zPool],by simp[zPool],by simp[zPool],by simp[zPool],by simp[zPool],by simp[zPool],by simp[zPool],by simp[zPool]⟩,by simp[zPool]⟩
theorem zvy (a:Ask):zit (newR a)=true∧zjt (newR a)=true:=by
 have:zit (newR a)=true:=by simp[zit,newR]
 refine⟨this,?_⟩;unfold zjt zec;rw[if_pos this];simp[newR]
theorem OkPl.start {p:Pool}(h:OkPl p){a:Ask}(ha:(bs a.host).length≤1000000∧(bs a.path).length≤1000000):OkPl (zgj p a).1:=by
 unfold zgj;split
 ·exact h
 ·rename_i hn;have hp:=h.p;have n0:=hp.n0;have n1:=hp.n1;refine⟨⟨by simp only;omega,by simp only;omega,by simp;omega,hp.ld,?_,hp.nd,?_,?_,?_,?_,hp.over⟩,?_⟩
  ·refine List.pairwise_append.2 ⟨hp.up,by simp,?_⟩;intro x hx y hy;simp only[List.mem_singleton]at hy;subst hy;have:=hp.rt x hx;simp only;omega
  ·intro t ht d hd;rcases List.mem_append.1 ht with g|g
   ·exact hp.ap t g d hd
   ·simp only[List.mem_singleton]at g;subst g;have:=hp.rd d hd;simp only;omega
  ·intro t ht;rcases List.mem_append.1 ht with g|g
   ·have:=hp.rt t g;simp only;omega
   ·simp only[List.mem_singleton]at g;subst g;simp only;omega
  ·intro t ht;have:=hp.rd t ht;simp only;omega
  ·intro t ht;rcases List.mem_append.1 ht with g|g
   ·exact hp.run t g
   ·simp only[List.mem_singleton]at g;subst g;exact zvy a
  ·intro t ht;rcases List.mem_append.1 ht with g|g
   ·exact h.a t g
   ·simp only[List.mem_singleton]at g;subst g;exact ha
theorem qn4 {s:Side}(h:(ze9 s).2.2=0):1≤(ze9 s).2.1:=by
 unfold ze9 at h⊢;simp only at h⊢;unfold pinP at h⊢;have hs:=(saneP_iff.1 (zc7 (soundX s).p)).1;generalize za3 (soundX s).p=q at h hs⊢;unfold pinQ at h⊢;split at h
 ·simp at h
 ·rename_i x hx;split at h
  ·simp at h
  ·rename_i hn;simp only[if_neg hn];have:=(zjd hs x (List.mem_of_getLast? hx)).2.2;omega
theorem saneQ_iff {r:Req}:zit r=true↔(0≤r.stage∧r.stage≤5∧0≤r.id)∧(0<r.id∨r.stage=0∨r.stage=5):=by
 simp[zit];omega
theorem zxz {w:Work}(a:Ans)(h:0≤w.r.id):zit (zfh w a).r=true∧(zfh w a).r.a=w.r.a:=by
 unfold zfh;split<;>exact⟨saneQ_iff.2 ⟨⟨by simp,by simp,h⟩,.inr (.inr rfl)⟩,rfl⟩
theorem qqe {w:Work}(h:zit w.r=true):zit (stepQ w).r=true∧(stepQ w).r.a=w.r.a:=by
 have hq:=saneQ_iff.1 h;unfold stepQ;by_cases h0:w.r.stage=0
 ·rw[if_pos h0];unfold zid;split
  ·exact zxz _ hq.1.2.2
  ·rename_i he;have:=qn4 (Decidable.not_not.1 he);exact⟨saneQ_iff.2 ⟨⟨by simp,by simp,by simp only;omega⟩,.inl (by simp only;omega)⟩,rfl⟩
 rw[if_neg h0];by_cases h1:w.r.stage=1
 ·rw[if_pos h1];unfold zfe;split
  ·exact zxz _ hq.1.2.2
  ·exact⟨saneQ_iff.2 ⟨⟨by simp,by simp,hq.1.2.2⟩,.inl (by simp only;omega)⟩,rfl⟩
 rw[if_neg h1];by_cases h2:w.r.stage=2
 ·rw[if_pos h2];unfold zk4;dsimp only
  repeat' split
  all_goals first
   |exact zxz _ hq.1.2.2
   |exact⟨saneQ_iff.2 ⟨⟨by simp,by simp,hq.1.2.2⟩,.inl (by simp only;omega)⟩,rfl⟩
 rw[if_neg h2];by_cases h3:w.r.stage=3
 ·rw[if_pos h3];unfold zh6;dsimp only
  repeat' split
  all_goals first
   |exact zxz _ hq.1.2.2
   |exact⟨saneQ_iff.2 ⟨⟨by simp,by simp,hq.1.2.2⟩,.inl (by simp only;omega)⟩,rfl⟩
 rw[if_neg h3];split
 ·exact zxz _ hq.1.2.2
 ·exact⟨h,rfl⟩
theorem qqc (r:Req)(s:Side):zit (zeb r s).r=true∧(zeb r s).r.a=r.a:=by
 have:=qqe (w:=⟨zec r,soundX s,[]⟩) (by
  unfold zec;split
  ·assumption
  ·exact(zvy r.a).1)
 exact⟨this.1,this.2.trans (qaw r)⟩
theorem qxu {l:List Task}{k:Nat}{t:Task}(hk:l[k]? =some t)(r:Req):(l.set k ⟨t.n,r⟩).map Task.n=l.map Task.n:=by
 apply List.ext_getElem?;intro j;rw[List.getElem?_map,List.getElem?_map,List.getElem?_set];split
 ·rename_i e;subst e;have hl:=(List.getElem?_eq_some_iff.1 hk).1;rw[if_pos hl,hk];rfl
 ·rfl
theorem up_map {l:List Task}:(l.Pairwise fun a b=>a.n<b.n)↔(l.map Task.n).Pairwise (· <·):=List.pairwise_map.symm
theorem OkPl.pick {p:Pool}(h:OkPl p){s:Side}(hs:OkD s)(draw:Int):OkPl (zei p s draw).1∧OkD (zei p s draw).2.1∧(∀g∈(zei p s draw).2.2.1,OkFrame g)∧(zei p s draw).2.2.1.length≤1:=by
 unfold zei;split
 ·exact⟨h,hs,by simp,by simp⟩
 rename_i t ht;have hm:t∈p.tasks:=List.mem_of_getElem? ht;have hp:=h.p;obtain⟨r1,r2⟩:=qqc t.r s;have hw:=OkWk.stepR t.r hs;have hn:=hp.rt t hm;have hat:=h.a t hm;dsimp only;generalize zeb t.r s=w at*;split
 ·rename_i hr;have e:=qxu ht w.r;have hmem:∀x∈p.tasks.set (pickAt p draw) ⟨t.n,w.r⟩,x∈p.tasks∨x=⟨t.n,w.r⟩:=fun x hx=>List.mem_or_eq_of_mem_set hx;refine⟨⟨⟨hp.n0,hp.n1,by simpa using hp.lt,hp.ld,?_,hp.nd,?_,?_,hp.rd,?_,hp.over⟩,?_⟩,hw.s,hw.t,hw.l⟩
  ·rw[up_map];simp only;rw[e];exact up_map.1 hp.up
  ·intro x hx d hd;rcases hmem x hx with g|g
   ·exact hp.ap x g d hd
   ·subst g;exact hp.ap t hm d hd
  ·intro x hx;rcases hmem x hx with g|g
   ·exact hp.rt x g
   ·subst g;exact hn
  ·intro x hx;rcases hmem x hx with g|g
   ·exact hp.run x g
   ·subst g;exact⟨r1,hr⟩
  ·intro x hx;rcases hmem x hx with g|g
   ·exact h.a x g
   ·subst g;simp only[r2];exact hat
 ·rename_i hr;have hsub:(p.tasks.eraseIdx (pickAt p draw)).Sublist p.tasks:=List.eraseIdx_sublist ..;have hin:∀x∈p.tasks.eraseIdx (pickAt p draw),x∈p.tasks:=fun x hx=>hsub.subset hx;have hne:∀x∈p.tasks.eraseIdx (pickAt p draw),x.n≠t.n:=by
   intro x hx e;obtain⟨j,hj,hj2⟩:=List.mem_eraseIdx_iff_getElem?.1 hx;have hnd:=zty hp.up;have a1:(p.tasks.map Task.n)[j]? =some t.n:=by rw[List.getElem?_map,hj2];simp[e]
   have a2:(p.tasks.map Task.n)[pickAt p draw]? =some t.n:=by rw[List.getElem?_map,ht];rfl
   have hj3:=(List.getElem?_eq_some_iff.1 a1).1;exact hj ((List.getElem?_inj hj3 hnd).1 (a1.trans a2.symm))
  have hdm:∀x∈ztt p.done ⟨t.n,w.r⟩,x∈p.done∨x=⟨t.n,w.r⟩:=by
   intro x hx;rcases List.mem_append.1 hx with g|g
   ·exact .inl (List.mem_of_mem_drop g)
   ·exact .inr (by simpa using g)
  refine⟨⟨⟨hp.n0,hp.n1,Nat.le_trans hsub.length_le hp.lt,?_,hp.up.sublist hsub,?_,?_,fun x hx=>hp.rt x (hin x hx),?_,fun x hx=>hp.run x (hin x hx),?_⟩,fun x hx=>h.a x (hin x hx)⟩,hw.s,hw.t,hw.l⟩
  ·simp only[ztt,List.length_append,List.length_drop,List.length_singleton];omega
  ·simp only[ztt,List.map_append,List.map_cons,List.map_nil,List.map_drop];rw[List.nodup_append];refine⟨hp.nd.sublist (List.drop_sublist _ _),by simp,?_⟩;intro a ha b hb e;simp only[List.mem_singleton]at hb;subst hb;subst e;obtain⟨d,hd,hd2⟩:=List.mem_map.1 (List.mem_of_mem_drop ha);exact hp.ap t hm d hd hd2.symm
  ·intro x hx d hd;rcases hdm d hd with g|g
   ·exact hp.ap x (hin x hx) d g
   ·subst g;exact hne x hx
  ·intro x hx;rcases hdm x hx with g|g
   ·exact hp.rd x g
   ·subst g;exact hn
  ·intro x hx;rcases hdm x hx with g|g
   ·exact hp.over x g
   ·subst g;simpa using hr
structure FLk where
 epoch:Int
 q:List Frame
def rlk (l:FLk):RLk:=⟨l.epoch,l.q.map zio⟩
structure OkL (l:FLk):Prop where
 e0:0≤l.epoch
 e1:l.epoch≤2147483647
 len:l.q.length≤32
 q:∀f∈l.q,za4 f=0
theorem qhz (n:Int):numB n≠[]:=by
 unfold numB numF;split<;>simp
theorem zvd {f:Frame}(h:za4 f=0):(zio f).length≤99100:=by
 have h1:=zoo (frameE_zero.1 h);have h2:=zad (putB f).length;unfold zio zn2;simp only[List.length_append];omega
theorem qrb (f:Frame):putB f≠[]:=by
 unfold putB;intro e;simp only[List.append_eq_nil_iff]at e;exact qhz _ e.1.1
theorem qaq (f:Frame):zio f≠[]:=by
 unfold zio zn2;intro e;simp only[List.append_eq_nil_iff]at e;exact qhz _ e.1
theorem OkL.lk {l:FLk}(h:OkL l):OkLk (rlk l):=⟨by have:=h.len;simp[rlk];omega,by
 intro b hb;obtain⟨f,hf,rfl⟩:=List.mem_map.1 hb;exact⟨qaq f,by have:=zvd (h.q f hf);omega⟩⟩
theorem OkL.sound {l:FLk}(h:OkL l):zb1 (rlk l)=rlk l:=zvz (saneK_iff.2 ⟨⟨h.e0,h.e1⟩,by simpa[rlk]using h.len⟩)
def zie (l:FLk)(f:Frame):FLk×Int:=if¬za4 f=0 then(l,za4 f)else if 32≤l.q.length then(l,8)else(⟨l.epoch,l.q++[f]⟩,0)
def zar (z:FLk×Int)(f:Frame):FLk×Int:=if(zie z.1 f).2=0 then((zie z.1 f).1,z.2)else(z.1,z.2+1)
def za1 (l:FLk)(lost:Int)(fs:List Frame):FLk×Int:=fs.foldl zar (l,lost)
theorem OkL.sent {l:FLk}(h:OkL l)(f:Frame):OkL (zie l f).1:=by
 unfold zie;split
 ·exact h
 rename_i he;split
 ·exact h
 ·rename_i hl;refine⟨h.e0,h.e1,by simp;omega,?_⟩;intro g hg;rcases List.mem_append.1 hg with g'|g'
  ·exact h.q g g'
  ·simp only[List.mem_singleton]at g';subst g';exact Decidable.not_not.1 he
theorem OkL.step {z:FLk×Int}(h:OkL z.1)(f:Frame):OkL (zar z f).1:=by
 unfold zar;split
 ·exact h.sent f
 ·exact h
theorem zpn :∀(fs:List Frame) {z:FLk×Int},OkL z.1→OkL (fs.foldl zar z).1∧z.2≤(fs.foldl zar z).2∧(fs.foldl zar z).2≤z.2+fs.length
 |[],z,h=>⟨h,Int.le_refl _,by simp⟩
 |f::fs,z,h=>by
  have:=zpn fs (h.step f);have h2:z.2≤(zar z f).2∧(zar z f).2≤z.2+1:=by unfold zar;split<;>simp<;>omega
  refine⟨this.1,?_,?_⟩
  ·exact Int.le_trans h2.1 this.2.1
  ·have:=this.2.2;simp only[List.foldl_cons,List.length_cons];omega
theorem OkL.send {l:FLk}(h:OkL l)(lost:Int)(fs:List Frame):OkL (za1 l lost fs).1:=(zpn fs (z:=(l,lost)) h).1
theorem zf6 {l:FLk}(h:OkL l)(lost:Int)(fs:List Frame):lost≤(za1 l lost fs).2∧(za1 l lost fs).2≤lost+fs.length:=(zpn fs (z:=(l,lost)) h).2
def zhd (l:FLk)(i:Int):Nat:=((max 0 i).tmod l.q.length).toNat
def zaw (l:FLk)(i:Int):FLk×Frame×Int:=if l.q=[]then(l,zFrame,10)else(⟨l.epoch,l.q.take (zhd l i)++l.q.drop (zhd l i+1)⟩,l.q.getD (zhd l i) zFrame,0)
def zoe (l:FLk)(i:Int):FLk×Int:=((zaw l i).1,(zaw l i).2.2)
def zgu (l:FLk)(i:Int):FLk×Int:=if l.q=[]then(l,10)else if 32≤l.q.length then(l,8)else(⟨l.epoch,l.q++[l.q.getD (zhd l i) zFrame]⟩,0)
def zls (l:FLk)(i:Int):FLk×Int:=if l.q=[]then(l,10)else(⟨l.epoch,(zaw l i).1.q++[(zaw l i).2.1]⟩,0)
theorem zp4 (l:FLk)(i:Int):placeK (rlk l) i=zhd l i:=by simp[placeK,zhd,rlk]
theorem zf4 {l:FLk}(i:Int)(h:l.q≠[]):zhd l i<l.q.length:=by
 rw[←zp4];have:=zlc (l:=rlk l) i (by simpa[rlk]using h);simpa[rlk]using this
theorem rlk_nil {l:FLk}:(rlk l).q=[]↔l.q=[]:=by simp[rlk]
theorem zxp (l:List Frame)(k:Nat)(h:k<l.length):(l.map zio).getD k []=zio (l.getD k zFrame):=by
 simp[List.getD,h]
theorem zo9 {l:FLk}(h:OkL l)(i:Int):zpa (rlk l) i=(rlk (zaw l i).1,if l.q=[]then []else zio (zaw l i).2.1,(zaw l i).2.2):=by
 unfold zpa;rw[h.sound];unfold zrq zaw;by_cases hq:l.q=[]
 ·rw[if_pos (rlk_nil.2 hq),if_pos hq,if_pos hq]
 ·rw[if_neg (fun e=>hq (rlk_nil.1 e)),if_neg hq,if_neg hq,zp4];simp only[rlk];rw[zxp _ _ (zf4 i hq)];simp
theorem qjs {l:FLk}(h:OkL l)(i:Int):qel (rlk l) i=(rlk (zoe l i).1,(zoe l i).2):=by
 unfold qel zoe;rw[zo9 h]
theorem qe7 {l:FLk}(h:OkL l)(i:Int):zyi (rlk l) i=(rlk (zgu l i).1,(zgu l i).2):=by
 unfold zyi zgu;rw[h.sound];by_cases hq:l.q=[]
 ·rw[if_pos (rlk_nil.2 hq),if_pos hq]
 ·rw[if_neg (fun e=>hq (rlk_nil.1 e)),if_neg hq];unfold ztj;rw[h.sound,zp4];have e:(rlk l).q.getD (zhd l i) []=zio (l.q.getD (zhd l i) zFrame):=zxp _ _ (zf4 i hq);rw[e];by_cases hl:32≤l.q.length
  ·rw[if_pos hl,zmp (by simpa[rlk]using hl)]
  ·rw[if_neg hl,zjb (by simpa[rlk]using hl)];simp[rlk]
theorem OkL.take {l:FLk}(h:OkL l)(i:Int):OkL (zaw l i).1∧((zaw l i).2.2=0→za4 (zaw l i).2.1=0):=by
 unfold zaw;by_cases hq:l.q=[]
 ·rw[if_pos hq];exact⟨h,by simp⟩
 ·rw[if_neg hq];have hk:=zf4 i hq;refine⟨⟨h.e0,h.e1,by have:=h.len;simp;omega,?_⟩,fun _=>?_⟩
  ·intro f hf;rcases List.mem_append.1 hf with g|g
   ·exact h.q f (List.mem_of_mem_take g)
   ·exact h.q f (List.mem_of_mem_drop g)
  ·have:l.q.getD (zhd l i) zFrame=l.q[zhd l i]:=by simp[hk]
   simp only;rw[this];exact h.q _ (List.getElem_mem hk)
theorem qas {l:FLk}(i:Int)(hq:l.q≠[]):(zaw l i).1.q.length+1=l.q.length:=by
 have hk:=zf4 i hq;unfold zaw;rw[if_neg hq];simp;omega
theorem qiq {l:FLk}(h:OkL l)(i:Int):qis (rlk l) i=(rlk (zls l i).1,(zls l i).2):=by
 unfold qis zls;rw[h.sound];by_cases hq:l.q=[]
 ·rw[if_pos (rlk_nil.2 hq),if_pos hq]
 ·rw[if_neg (fun e=>hq (rlk_nil.1 e)),if_neg hq,zo9 h,if_neg hq];unfold ztj;rw[(h.take i).1.sound];have:=qas i hq;have hl:=h.len;rw[zjb (by simp[rlk];omega)];have e:(zaw l i).1.epoch=l.epoch:=by unfold zaw;split<;>rfl
  simp[rlk,e]
theorem OkL.drop {l:FLk}(h:OkL l)(i:Int):OkL (zoe l i).1:=(h.take i).1
theorem OkL.again {l:FLk}(h:OkL l)(i:Int):OkL (zgu l i).1:=by
 unfold zgu;split
 ·exact h
 rename_i hq;split
 ·exact h
 ·have hk:=zf4 i hq;refine⟨h.e0,h.e1,by simp;omega,?_⟩;intro f hf;rcases List.mem_append.1 hf with g|g
  ·exact h.q f g
  ·simp only[List.mem_singleton]at g;subst g;have:l.q.getD (zhd l i) zFrame=l.q[zhd l i]:=by simp[hk]
   rw[this];exact h.q _ (List.getElem_mem hk)
theorem OkL.late {l:FLk}(h:OkL l)(i:Int):OkL (zls l i).1:=by
 unfold zls;split
 ·exact h
 rename_i hq;have ht:=h.take i;have hl:=qas i hq;have hh:=h.len;refine⟨h.e0,h.e1,by simp;omega,?_⟩;intro f hf;rcases List.mem_append.1 hf with g|g
 ·exact ht.1.q f g
 ·simp only[List.mem_singleton]at g;subst g;exact ht.2 (by unfold zaw;rw[if_neg hq])
theorem OkL.fresh {l:FLk}(h:OkL l)(hm:¬l.epoch=2147483647):OkL ⟨l.epoch+1,[]⟩:=⟨by have:=h.e0;simp only;omega,by have:=h.e1;simp only;omega,by simp,by simp⟩
def txtC (f:Frame):List D:=txC (zio f)
@[simp] def flkC (l:FLk):List D:=[iD l.epoch,lD (l.q.map txtC)]
theorem zhv (l:FLk):rlkC (rlk l)=flkC l:=by simp[rlk,txtC,Function.comp_def]
structure Node where
 side:Side
 sess:Sess
 up:FLk
 dn:FLk
 pool:Pool
@[simp] def zcm (n:Node):List D:=zc1 n.side++zfb n.sess++flkC n.up++flkC n.dn++zwe n.pool
structure Cfg where
 sides:Int
 cap:Int
 limit:Int
 max:Int
@[simp] def cfgC (c:Cfg):List D:=[iD c.sides,iD c.cap,iD c.limit,iD c.max]
structure MStep where
 kind:Int
 side:Int
 way:Int
 n:Int
 adds:List Res
 gone:List Key
 a:Ask
@[simp] def zaf (s:MStep):List D:=[iD s.kind,iD s.side,iD s.way,iD s.n,lD (s.adds.map resC),lD (s.gone.map keyC)]++askC s.a
structure MOut where
 e:Int
 n:Int
 ans:Ans
 l:List Int
 keys:List Key
@[simp] def zb9 (o:MOut):List D:=[iD o.e,iD o.n]++ansC o.ans++[lD (o.l.map intC),lD (o.keys.map keyC)]
def outE (e:Int):MOut:=⟨e,0,zAns,[],[]⟩
def outN (n:Int):MOut:=⟨0,n,zAns,[],[]⟩
structure OkN (n:Node):Prop where
 d:OkD n.side
 ss:zbr n.sess=true
 so:OkSess n.sess
 up:OkL n.up
 dn:OkL n.dn
 pl:OkPl n.pool
def za6 (mx lost:Int)(n:Node):Node×Int×Int:=
 if n.up.epoch=2147483647∨n.dn.epoch=2147483647 then(n,lost,14)else
 let c:=zao n.side (n.up.epoch+1)
 let u:=za1 ⟨n.up.epoch+1,[]⟩ lost c.2.1
 (⟨c.1,zcs (n.up.epoch+1) mx,u.1,⟨n.dn.epoch+1,[]⟩,n.pool⟩,u.2,c.2.2)
def zc9 (mx:Int)(p:Store)(lost:Int)(n:Node):Node×Int×Int:=
 let s:=pump n.sess p
 let d:=za1 n.dn lost s.2.1
 let m:Node:={n with sess:=s.1,dn:=d.1}
 if s.2.2=0 then(m,d.2,0)else((za6 mx d.2 m).1,(za6 mx d.2 m).2.1,s.2.2)
theorem OkSess.new (e m:Int):OkSess (zcs e m):=⟨qak⟩
theorem OkN.renew {n:Node}(h:OkN n)(mx lost:Int):OkN (za6 mx lost n).1∧lost≤(za6 mx lost n).2.1∧(za6 mx lost n).2.1≤lost+2:=by
 unfold za6;split
 ·exact⟨h,by simp,by simp only;omega⟩
 ·rename_i he;have c:=h.d.connect (n.up.epoch+1);have u:=h.up.fresh (by omega);dsimp only;have l:=zf6 u lost (zao n.side (n.up.epoch+1)).2.1;exact⟨⟨c.1,zis _ _,.new _ _,u.send _ _,h.dn.fresh (by omega),h.pl⟩,l.1,by have:=c.2.2;omega⟩
theorem OkN.pump {n:Node}(h:OkN n)(mx:Int){p:Store}(hp:sanS p=true)(lost:Int):OkN (zc9 mx p lost n).1∧lost≤(zc9 mx p lost n).2.1∧(zc9 mx p lost n).2.1≤lost+3:=by
 obtain⟨p1,p2,p3,p4,_⟩:=zop h.ss h.so hp;have l:=zf6 h.dn lost (Go.G.pump n.sess p).2.1;have hm:OkN {n with sess:=(Go.G.pump n.sess p).1,dn:=(za1 n.dn lost (Go.G.pump n.sess p).2.1).1}:=⟨h.d,p1,p2,h.up,h.dn.send _ _,h.pl⟩;unfold zc9;dsimp only;split
 ·exact⟨hm,l.1,by simp only;omega⟩
 ·have r:=hm.renew mx (za1 n.dn lost (Go.G.pump n.sess p).2.1).2;exact⟨r.1,by simp only;omega,by simp only;omega⟩
def wayN (n:Node)(w:Int):FLk:=if w=0 then n.up else n.dn
def setW (n:Node)(w:Int)(l:FLk):Node:=if w=0 then{n with up:=l}else{n with dn:=l}
theorem OkN.way {n:Node}(h:OkN n)(w:Int):OkL (wayN n w):=by unfold wayN;split;exact h.up;exact h.dn
theorem OkN.set {n:Node}(h:OkN n)(w:Int){l:FLk}(hl:OkL l):OkN (setW n w l):=by
 unfold setW;split
 ·exact⟨h.d,h.ss,h.so,hl,h.dn,h.pl⟩
 ·exact⟨h.d,h.ss,h.so,h.up,hl,h.pl⟩
abbrev NR :=Node×Int×MOut
def zck (mx:Int)(p:Store)(lost:Int)(n:Node)(s:MStep):NR:=
 let t:=zaw (wayN n s.way) s.n
 let m:=setW n s.way t.1
 if¬t.2.2=0 then(m,lost,outE t.2.2)else
 if s.way=1 then
  let r:=zea m.side t.2.1
  let u:=za1 m.up lost r.2.1
  ({m with side:=r.1,up:=u.1},u.2,outE r.2.2)
 else
  let r:=handle m.sess p t.2.1
  let k:Node:={m with sess:=r.1}
  if¬r.2=0 then(k,lost,outE r.2)else((zc9 mx p lost k).1,(zc9 mx p lost k).2.1,outE (zc9 mx p lost k).2.2)
def ze3 (f:FLk→Int→FLk×Int)(lost:Int)(n:Node)(s:MStep):NR:=(setW n s.way (f (wayN n s.way) s.n).1,lost,outE (f (wayN n s.way) s.n).2)
def zfj (lost:Int)(n:Node)(s:MStep):NR:=({n with pool:=(zgj n.pool s.a).1},lost,⟨(zgj n.pool s.a).2.2,(zgj n.pool s.a).2.1,zAns,[],[]⟩)
def zl0 (lost:Int)(n:Node)(s:MStep):NR:=
 let r:=zei n.pool n.side s.n
 let u:=za1 n.up lost r.2.2.1
 ({n with pool:=r.1,side:=r.2.1,up:=u.1},u.2,
   if¬r.2.2.2=0∨r.1.tasks.length=n.pool.tasks.length then outE r.2.2.2 else match r.1.done.getLast? with
    |some x=>⟨0,x.n,x.r.out,[],[]⟩
    |none=>outE 0)
def yesI (b:Bool):Int:=if b then 1 else 0
def zn4 (p:Store)(lost:Int)(n:Node):NR:=
 (n,lost,⟨0,0,zAns,[nowI p,n.side.epoch,yesI (zh9 n.side).isSome,n.pool.tasks.length,n.pool.done.length,yesI (zfl n.sess p),n.up.q.length,n.dn.q.length,lost],(((zh9 n.side).map (·.l)).getD []).map Res.key⟩)
def za7 (mx:Int)(p:Store)(lost:Int)(n:Node)(s:MStep):NR:=
 if s.kind=1 then zck mx p lost n s else if s.kind=2 then ze3 zoe lost n s else if s.kind=3 then ze3 zgu lost n s else if s.kind=4 then ze3 zls lost n s
 else if s.kind=5 then((za6 mx lost n).1,(za6 mx lost n).2.1,outE (za6 mx lost n).2.2)else if s.kind=7 then zfj lost n s else if s.kind=8 then zl0 lost n s else zn4 p lost n
theorem OkN.bring {n:Node}(h:OkN n)(mx:Int){p:Store}(hp:sanS p=true)(lost:Int)(s:MStep):OkN (zck mx p lost n s).1∧lost≤(zck mx p lost n s).2.1∧(zck mx p lost n s).2.1≤lost+3:=by
 have t:=(h.way s.way).take s.n;have m:=h.set s.way t.1;unfold zck;dsimp only;split
 ·exact⟨m,by simp,by simp only;omega⟩
 split
 ·have r:=m.d.side (zaw (wayN n s.way) s.n).2.1;have l:=zf6 m.up lost (zea (setW n s.way (zaw (wayN n s.way) s.n).1).side (zaw (wayN n s.way) s.n).2.1).2.1;exact⟨⟨r.1,m.ss,m.so,m.up.send _ _,m.dn,m.pl⟩,l.1,by have:=r.2.2;simp only;omega⟩
 ·have k:OkN {(setW n s.way (zaw (wayN n s.way) s.n).1)with sess:=(handle (setW n s.way (zaw (wayN n s.way) s.n).1).sess p (zaw (wayN n s.way) s.n).2.1).1}:=⟨m.d,zek p _ m.ss,zjk _ m.ss m.so hp,m.up,m.dn,m.pl⟩;split
  ·exact⟨k,by simp,by simp only;omega⟩
  ·exact k.pump mx hp lost
theorem OkN.single {n:Node}(h:OkN n)(mx:Int){p:Store}(hp:sanS p=true)(lost:Int){s:MStep}(ha:(bs s.a.host).length≤1000000∧(bs s.a.path).length≤1000000):OkN (za7 mx p lost n s).1∧lost≤(za7 mx p lost n s).2.1∧(za7 mx p lost n s).2.1≤lost+3:=by
 unfold za7;split
 ·exact h.bring mx hp lost s
 split
 ·exact⟨h.set _ ((h.way _).drop _),by simp[ze3],by simp only[ze3];omega⟩
 split
 ·exact⟨h.set _ ((h.way _).again _),by simp[ze3],by simp only[ze3];omega⟩
 split
 ·exact⟨h.set _ ((h.way _).late _),by simp[ze3],by simp only[ze3];omega⟩
 split
 ·have r:=h.renew mx lost;exact⟨r.1,by simp only;omega,by simp only;omega⟩
 split
 ·exact⟨⟨h.d,h.ss,h.so,h.up,h.dn,h.pl.start ha⟩,by simp[zfj],by simp only[zfj];omega⟩
 split
 ·obtain⟨k1,k2,k3,k4⟩:=h.pl.pick h.d s.n;have l:=zf6 h.up lost (zei n.pool n.side s.n).2.2.1;exact⟨⟨k2,h.ss,h.so,h.up.send _ _,h.dn,k1⟩,l.1,by simp only[zl0];omega⟩
 ·exact⟨h,by simp[zn4],by simp only[zn4];omega⟩
theorem ok_store {p:Store}(hp:sanS p=true):OkStore p:=by
 have hh:=(zcd p).1 hp;refine⟨by have:=hh.2.1;omega,fun l hl=>?_⟩;obtain⟨i,hi⟩:=List.mem_iff_getElem?.1 hl;have hc:0≤p.cap:=by rw[hh.1];exact(zo2 _).1
 exact qhr (hh.2.2.acc hc hi).tab
theorem zs5 {l:FLk}{i:Int}(h:(zaw l i).2.2=0):l.q≠[]:=by
 intro e;unfold zaw at h;rw[if_pos e]at h;exact absurd h (by simp)
theorem qhm {p:Pool}{s:Side}{draw:Int}(h:¬(zei p s draw).1.tasks.length=p.tasks.length):∃i x,(zei p s draw).1.done=i++[x]:=by
 unfold zei at h⊢;split at h
 ·exact absurd rfl h
 ·rename_i t ht;dsimp only at h⊢;split at h
  ·exact absurd (by simp) h
  ·rename_i hr;rw[if_neg hr];exact⟨_,_,rfl⟩
theorem zvq {s:Side}(h:OkX s):(((zh9 s).map (·.l)).getD []).length≤64:=by
 unfold zh9 curP;have hs:=h.sound.pins.sound.snaps;generalize za3 (soundX s).p=q at hs⊢;cases e:q.snaps.getLast? with
 |none=>simp
 |some x=>simpa using(hs x (List.mem_of_getLast? e)).2
structure Mesh where
 c:Cfg
 p:Store
 ns:List Node
 lost:Int
def zag (c:Cfg):Node:=⟨newX c.limit c.max,zcs 0 c.max,⟨0,[]⟩,⟨0,[]⟩,zPool⟩
def zaj (c:Cfg):Nat:=(max 1 (min c.sides 4)).toNat
def newM (c:Cfg):Mesh:=⟨c,newS c.cap,List.replicate (zaj c) (zag c),0⟩
def zbn (mx:Int)(p:Store):List Node→Int→Int→List Node×Int×Int
 |[],lost,e=>([],lost,e)
 |n::l,lost,e=>
  let r:=zc9 mx p lost n
  let q:=zbn mx p l r.2.1 (if e=0 then r.2.2 else e)
  (r.1::q.1,q.2)
def zdk (M:Mesh)(s:MStep):Mesh×MOut:=
 let p:=zgz M.p s.adds s.gone
 let e:=zif M.p s.adds s.gone
 if¬e=0 then(⟨M.c,p,M.ns,M.lost⟩,outE e)else
 let q:=zbn M.c.max p M.ns M.lost 0
 (⟨M.c,p,q.1,q.2.1⟩,⟨q.2.2,nowI p,zAns,[],[]⟩)
def zb4 :List Node→Int→Int→List Node×Int×Int
 |[],lost,k=>([],lost,k)
 |n::l,lost,k=>
  let d:=za1 n.dn lost (zae n.sess)
  let q:=zb4 l d.2 (k+(zae n.sess).length)
  ({n with dn:=d.1}::q.1,q.2)
def zgv (M:Mesh):Mesh×MOut:=
 let q:=zb4 M.ns M.lost 0
 (⟨M.c,M.p,q.1,q.2.1⟩,outN q.2.2)
def zlg (l:List Node)(i:Int):Option Node:=if 0≤i then l[i.toNat]? else none
def za2 (M:Mesh)(s:MStep):Mesh×MOut:=
 if M.ns=[]then(M,outE 15)else if¬(0≤s.kind∧s.kind≤9)then(M,outE 4)else
 if s.kind=0 then zdk M s else if s.kind=6 then zgv M else
 match zlg M.ns s.side with
 |none=>(M,outE 10)
 |some n=>
  if s.kind≤4∧(s.way<0∨2≤s.way)then(M,outE 10)else
  let r:=za7 M.c.max M.p M.lost n s
  (⟨M.c,M.p,M.ns.set s.side.toNat r.1,r.2.1⟩,r.2.2)
def zb8 :Mesh→List MStep→Mesh×List MOut
 |M,[]=>(M,[])
 |M,s::l=>let r:=za2 M s;let q:=zb8 r.1 l;(q.1,r.2::q.2)
def qsw (n:Node):Bool:=decide (n.up.q.length+n.dn.q.length+n.pool.tasks.length=0)
def zth (M:Mesh):Bool:=!decide (M.ns=[])&&M.ns.all fun n=>qsw n&&zfl n.sess M.p
structure OkSt (s:MStep):Prop where
 a:(bs s.a.host).length≤1000000∧(bs s.a.path).length≤1000000
 adds:s.adds.length≤1000
 gone:s.gone.length≤1000
structure OkM (M:Mesh)(B:Int):Prop where
 n1:1≤M.ns.length
 n4:M.ns.length≤4
 ok:∀n∈M.ns,OkN n
 p:sanS M.p=true
 l0:0≤M.lost
 l1:M.lost≤B
theorem OkN.new (c:Cfg):OkN (zag c):=⟨.new _ _,zis _ _,.new _ _,⟨by simp[zag],by simp[zag],by simp[zag],by simp[zag]⟩,⟨by simp[zag],by simp[zag],by simp[zag],by simp[zag]⟩,.zero⟩
theorem OkM.new (c:Cfg):OkM (newM c) 0:=by
 refine⟨by simp[newM,zaj];omega,by simp[newM,zaj];omega,?_,qli _,by simp[newM],by simp[newM]⟩;intro n hn;have:=List.eq_of_mem_replicate hn;subst this;exact .new c
theorem zhc (mx:Int){p:Store}(hp:sanS p=true):∀(l:List Node) (lost e:Int),(∀n∈l,OkN n)→(∀n∈(zbn mx p l lost e).1,OkN n)∧(zbn mx p l lost e).1.length=l.length∧lost≤(zbn mx p l lost e).2.1∧(zbn mx p l lost e).2.1≤lost+3*l.length
 |[],lost,e,_=>⟨by simp[zbn],rfl,by simp[zbn],by simp[zbn]⟩
 |n::l,lost,e,h=>by
  have r:=(h n List.mem_cons_self).pump mx hp lost;have q:=zhc mx hp l (zc9 mx p lost n).2.1 (if e=0 then(zc9 mx p lost n).2.2 else e) (fun x hx=>h x (List.mem_cons_of_mem _ hx));refine⟨?_,?_,?_,?_⟩
  ·intro x hx;rcases List.mem_cons.1 hx with g|g
   ·subst g;exact r.1
   ·exact q.1 x g
  ·simp only[zbn,List.length_cons];rw[q.2.1]
  ·simp only[zbn];omega
  ·simp only[zbn,List.length_cons];omega
theorem zv4 {n:Node}(h:OkN n):(∀f∈zae n.sess,OkFrame f)∧(zae n.sess).length≤1:=by
 unfold zae;rw[zbx h.ss];split
 ·exact⟨fun f hf=>by simp only[List.mem_singleton]at hf;subst hf;exact h.so.v.push,by simp⟩
 ·exact⟨by simp,by simp⟩
theorem zg3 :∀(l:List Node) (lost k:Int),(∀n∈l,OkN n)→(∀n∈(zb4 l lost k).1,OkN n)∧(zb4 l lost k).1.length=l.length∧lost≤(zb4 l lost k).2.1∧(zb4 l lost k).2.1≤lost+l.length
 |[],lost,k,_=>⟨by simp[zb4],rfl,by simp[zb4],by simp[zb4]⟩
 |n::l,lost,k,h=>by
  have hn:=h n List.mem_cons_self;have f:=zv4 hn;have d:=zf6 hn.dn lost (zae n.sess);have q:=zg3 l (za1 n.dn lost (zae n.sess)).2 (k+(zae n.sess).length) (fun x hx=>h x (List.mem_cons_of_mem _ hx));refine⟨?_,?_,?_,?_⟩
  ·intro x hx;rcases List.mem_cons.1 hx with g|g
   ·subst g;exact⟨hn.d,hn.ss,hn.so,hn.up,hn.dn.send _ _,hn.pl⟩
   ·exact q.1 x g
  ·simp only[zb4,List.length_cons];rw[q.2.1]
  ·simp only[zb4];omega
  ·simp only[zb4,List.length_cons];omega
theorem zhe {l:List Node}{i:Int}{n:Node}(h:zlg l i=some n):n∈l∧0≤i∧i.toNat<l.length∧l[i.toNat]? =some n:=by
 unfold zlg at h;split at h
 ·exact⟨List.mem_of_getElem? h,‹_›,(List.getElem?_eq_some_iff.1 h).1,h⟩
 ·cases h
theorem OkM.step {M:Mesh}{B:Int}(h:OkM M B){s:MStep}(hs:OkSt s):OkM (za2 M s).1 (B+12):=by
 have h4:=h.n4;have l0:=h.l0;have l1:=h.l1;have same:OkM M (B+12):=⟨h.n1,h.n4,h.ok,h.p,h.l0,by omega⟩;unfold za2;split
 ·exact same
 split
 ·exact same
 split
 ·have hp:=zez h.p s.adds s.gone;unfold zdk;dsimp only;split
  ·exact⟨h.n1,h.n4,h.ok,hp,h.l0,by simp only;omega⟩
  ·have q:=zhc M.c.max hp M.ns M.lost 0 h.ok;exact⟨by simp only;rw[q.2.1];exact h.n1,by simp only;rw[q.2.1];exact h.n4,q.1,hp,by simp only;omega,by simp only;omega⟩
 split
 ·have q:=zg3 M.ns M.lost 0 h.ok;exact⟨by simp only[zgv];rw[q.2.1];exact h.n1,by simp only[zgv];rw[q.2.1];exact h.n4,q.1,h.p,by simp only[zgv];omega,by simp only[zgv];omega⟩
 split
 ·exact same
 ·rename_i n hn;have hm:=zhe hn;split
  ·exact same
  ·have r:=(h.ok n hm.1).single M.c.max h.p M.lost hs.a;dsimp only;refine⟨by simpa using h.n1,by simpa using h.n4,?_,h.p,by simp only;omega,by simp only;omega⟩;intro x hx;rcases List.mem_or_eq_of_mem_set hx with g|g
   ·exact h.ok x g
   ·subst g;exact r.1
def qt8 :Node:=zag ⟨0,0,0,0⟩
def nth (M:Mesh)(i:Nat):Node:=M.ns.getD i qt8
theorem qov {M:Mesh}{B:Int}(h:OkM M B){i:Nat}(hi:i<M.ns.length):OkN (nth M i):=by
 have:nth M i=M.ns[i]:=by simp[nth,hi]
 rw[this];exact h.ok _ (List.getElem_mem hi)
theorem qx9 {α:Type}{l:List α}(z:α)(h:l.length=1):l=[l.getD 0 z]:=by
 match l,h with
 |[a],_=>rfl
theorem ns1 {M:Mesh}(h:M.ns.length=1):M.ns=[nth M 0]:=qx9 qt8 h
@[simp] theorem nth0 (c:Cfg)(p:Store)(a:Node)(l:List Node)(n:Int):nth ⟨c,p,a::l,n⟩ 0=a:=rfl
@[simp] theorem nth1 (c:Cfg)(p:Store)(a b:Node)(l:List Node)(n:Int):nth ⟨c,p,a::b::l,n⟩ 1=b:=rfl
@[simp] theorem nth2 (c:Cfg)(p:Store)(a b d:Node)(l:List Node)(n:Int):nth ⟨c,p,a::b::d::l,n⟩ 2=d:=rfl
@[simp] theorem nth3 (c:Cfg)(p:Store)(a b d e:Node)(l:List Node)(n:Int):nth ⟨c,p,a::b::d::e::l,n⟩ 3=e:=rfl
theorem qqa {M:Mesh}{s:MStep}(hn:M.ns≠[])(hk:s.kind=0):za2 M s=zdk M s:=by
 unfold za2;rw[if_neg hn,if_neg (by omega),if_pos hk]
theorem qky {M:Mesh}{s:MStep}(hk:M.ns.length=1)(h1:1≤s.kind)(h9:s.kind≤9)(h6:s.kind≠6)(hs:s.side=0)(hw:s.kind≤4→s.way=0∨s.way=1):
  za2 M s=(⟨M.c,M.p,[(za7 M.c.max M.p M.lost (nth M 0) s).1],(za7 M.c.max M.p M.lost (nth M 0) s).2.1⟩,(za7 M.c.max M.p M.lost (nth M 0) s).2.2):=by
 unfold za2;rw[ns1 hk,if_neg (by simp),if_neg (by omega),if_neg (by omega),if_neg h6];have e:zlg [nth M 0] s.side=some (nth M 0):=by rw[hs];rfl
 rw[e];simp only;rw[if_neg (by omega),hs];rfl
def zee (w:Int):MStep:=⟨1,0,w,0,[],[],zAsk⟩
def zdw (M:Mesh)(w:Int):Nat→Mesh
 |0=>M
 |k+1=>(za2 (zdw M w k) (zee w)).1
def zqt (M:Mesh)(w:Int):Mesh:=zdw M w (wayN (nth M 0) w).q.length
def qka (M:Mesh):Mesh:=zqt (zqt M 0) 1
def zd9 (M:Mesh):Nat→Mesh
 |0=>M
 |n+1=>qka (zd9 M n)
theorem zp6 (w:Int):OkSt (zee w):=⟨by simp[zee,zAsk],by simp[zee],by simp[zee]⟩
theorem zmb {M:Mesh}{B:Int}(hk:M.ns.length=1)(hM:OkM M B){w:Int}(hw:w=0∨w=1):∀k:Nat,(zdw M w k).ns.length=1∧OkM (zdw M w k) (B+12*k)
 |0=>⟨hk,by simpa[zdw]using hM⟩
 |k+1=>by
  have:=zmb hk hM hw k;refine⟨?_,?_⟩
  ·simp only[zdw];rw[qky this.1 (by simp[zee]) (by simp[zee]) (by simp[zee]) rfl (fun _=>hw)];rfl
  ·have h2:=this.2.step (zp6 w);simp only[zdw];have e:B+12*((k+1:Nat):Int)=B+12*(k:Int)+12:=by omega
   rw[e];exact h2
theorem zyq {M:Mesh}{B:Int}(hk:M.ns.length=1)(hM:OkM M B)(w:Int):(wayN (nth M 0) w).q.length≤32:=((qov hM (i:=0) (by omega)).way w).len
theorem OkM.up {M:Mesh}{B C:Int}(h:OkM M B)(hBC:B≤C):OkM M C:=⟨h.n1,h.n4,h.ok,h.p,h.l0,by have:=h.l1;omega⟩
theorem zma {M:Mesh}{B:Int}(hk:M.ns.length=1)(hM:OkM M B){w:Int}(hw:w=0∨w=1):(zqt M w).ns.length=1∧OkM (zqt M w) (B+384):=by
 have h:=zmb hk hM hw (wayN (nth M 0) w).q.length;have hl:=zyq hk hM w;exact⟨h.1,h.2.up (by omega)⟩
theorem qj9 {M:Mesh}{B:Int}(hk:M.ns.length=1)(hM:OkM M B):(qka M).ns.length=1∧OkM (qka M) (B+768):=by
 have h:=zma hk hM (.inl rfl);have h2:=zma h.1 h.2 (.inr rfl);exact⟨h2.1,h2.2.up (by omega)⟩
theorem zjo {M:Mesh}{B:Int}(hk:M.ns.length=1)(hM:OkM M B):∀n:Nat,(zd9 M n).ns.length=1∧OkM (zd9 M n) (B+768*n)
 |0=>⟨hk,by simpa[zd9]using hM⟩
 |n+1=>by
  have h:=zjo hk hM n;have h2:=qj9 h.1 h.2;exact⟨h2.1,h2.2.up (by omega)⟩
theorem zp2 (mx:Int)(p:Store):∀(l:List Node) (lost e:Int),(zbn mx p l lost e).1.length=l.length
 |[],_,_=>rfl
 |_::l,_,_=>by simp only[zbn,List.length_cons];rw[zp2]
theorem zo8 :∀(l:List Node) (lost k:Int),(zb4 l lost k).1.length=l.length
 |[],_,_=>rfl
 |_::l,_,_=>by simp only[zb4,List.length_cons];rw[zo8]
theorem zoj (M:Mesh)(s:MStep):(za2 M s).1.ns.length=M.ns.length:=by
 unfold za2;split
 ·rfl
 split
 ·rfl
 split
 ·unfold zdk;dsimp only;split
  ·rfl
  ·exact zp2 _ _ _ _ _
 split
 ·exact zo8 _ _ _
 split
 ·rfl
 split
 ·rfl
 ·simp
def smallL :List Res:=
 [⟨0,⟨#[108]⟩,0,80,⟨#[114]⟩,[],[]⟩,⟨1,⟨#[114]⟩,0,0,⟨#[]⟩,[⟨⟨#[42]⟩,⟨#[47]⟩,[⟨⟨#[99]⟩,1⟩]⟩],[]⟩,⟨2,⟨#[99]⟩,0,0,⟨#[101]⟩,[],[]⟩,⟨3,⟨#[101]⟩,0,0,⟨#[]⟩,[],[7]⟩]
def sRen :MStep:=⟨5,0,0,0,[],[],zAsk⟩
def sUpd :MStep:=⟨0,0,0,0,smallL,[],zAsk⟩
def sBeg :MStep:=⟨7,0,0,0,[],[],⟨80,⟨#[104]⟩,⟨#[47]⟩,0,0⟩⟩
def sGo :MStep:=⟨8,0,0,0,[],[],zAsk⟩
def aM0 :Mesh:=newM ⟨1,9,9,99⟩
def aM1 :Mesh:=(za2 aM0 sRen).1
def aM2 :Mesh:=(za2 aM1 sUpd).1
def aM3 :Mesh:=zd9 aM2 8
def aM4 :Mesh:=(za2 aM3 sBeg).1
def aG :Nat→Mesh
 |0=>aM4
 |k+1=>(za2 (aG k) sGo).1
def aO :Nat→MOut
 |0=>outE 0
 |k+1=>(za2 (aG k) sGo).2
theorem qos :OkSt sRen:=⟨by simp[sRen,zAsk],by simp[sRen],by simp[sRen]⟩
theorem qor :OkSt sUpd:=⟨by simp[sUpd,zAsk],by simp[sUpd,smallL],by simp[sUpd]⟩
theorem qou :OkSt sBeg:=⟨by decide+kernel,by simp[sBeg],by simp[sBeg]⟩
theorem qvo :OkSt sGo:=⟨by simp[sGo,zAsk],by simp[sGo],by simp[sGo]⟩
theorem len0 :aM0.ns.length=1:=rfl
theorem okA0 :OkM aM0 0:=.new _
theorem len1 :aM1.ns.length=1:=(zoj _ _).trans len0
theorem okA1 :OkM aM1 12:=(okA0.step qos).up (by omega)
theorem len2 :aM2.ns.length=1:=(zoj _ _).trans len1
theorem okA2 :OkM aM2 24:=(okA1.step qor).up (by omega)
theorem len3 :aM3.ns.length=1:=(zjo len2 okA2 8).1
theorem okA3 :OkM aM3 10000:=(zjo len2 okA2 8).2.up (by omega)
theorem len4 :aM4.ns.length=1:=(zoj _ _).trans len3
theorem okA4 :OkM aM4 10012:=(okA3.step qou).up (by omega)
theorem lenG :∀k,(aG k).ns.length=1
 |0=>len4
 |k+1=>(zoj _ _).trans (lenG k)
theorem okG :∀k:Nat,OkM (aG k) (10012+12*k)
 |0=>okA4.up (by omega)
 |k+1=>((okG k).step qvo).up (by omega)
theorem aw2 :(za2 aM1 sUpd).2.n=1:=by decide+kernel
theorem aw4 :(za2 aM3 sBeg).2.n=1:=by decide+kernel
theorem aw5 :(aO 5).n=1∧(aO 5).ans=⟨3,⟨#[99]⟩,7⟩:=by decide+kernel
theorem aw6 :zth (aG 5)=true:=by decide+kernel
def zSideL :Side:=⟨0,0,false,⟨0,0,0,0,0⟩,⟨0,0,0,0⟩,⟨⟨0,[]⟩,false,[]⟩,⟨0,[]⟩⟩
def zkv (s:MStep):Bool:=fewL s.adds&&decide (s.gone.length≤80)&&decide ((bs s.a.host).length≤100)&&decide ((bs s.a.path).length≤100)
def aO2 :MOut:=(za2 aM1 sUpd).2
def aO4 :MOut:=(za2 aM3 sBeg).2
theorem qys :aO2.n=1:=aw2
theorem qyr :aO4.n=1:=aw4
structure OkMA (s:MStep):Prop where
 adds:OkRs s.adds
 gone:s.gone.length≤9223372036854775807
 host:nB s.a.host
 path:nB s.a.path
theorem zd0 (s:MStep):∀(l:List MStep) (M:Mesh),zb8 M (l++[s])=((za2 (zb8 M l).1 s).1,(zb8 M l).2++[(za2 (zb8 M l).1 s).2])
 |[],M=>rfl
 |x::l,M=>by
  have h:=zd0 s l (za2 M x).1;simp only[List.cons_append,zb8,h]
theorem stepM_len {M:Mesh}{B:Int}(hM:OkM M B)(s:MStep):(za2 M s).1.ns.length=M.ns.length:=by
 unfold za2;split
 ·rfl
 split
 ·rfl
 split
 ·unfold zdk;dsimp only;split
  ·rfl
  ·exact(zhc M.c.max (zez hM.p s.adds s.gone) M.ns M.lost 0 hM.ok).2.1
 split
 ·exact(zg3 M.ns M.lost 0 hM.ok).2.1
 split
 ·rfl
 ·split
  ·rfl
  ·simp
theorem zfo {M:Mesh}{B:Int}:∀(l:List MStep),OkM M B→(∀s∈l,OkSt s)→OkM (zb8 M l).1 (B+12*l.length)∧(zb8 M l).1.ns.length=M.ns.length:=by
 intro l;induction l generalizing M B with
 |nil=>intro h _;exact⟨by simpa[zb8]using h,rfl⟩
 |cons x l ih=>
  intro h hs;have h1:=h.step (hs x List.mem_cons_self);have h2:=ih h1 (fun s hm=>hs s (List.mem_cons_of_mem _ hm));refine⟨?_,?_⟩
  ·have e:B+12*((x::l).length:Int)=B+12+12*(l.length:Int):=by simp;omega
   rw[e];exact h2.1
  ·show(zb8 (za2 M x).1 l).1.ns.length=_;rw[h2.2,stepM_len h]
def ndC (M:Mesh)(i:Nat):List D:=zcm (nth M i)
def ndL (M:Mesh):Nat→Nat→List (List D)
 |_,0=>[]
 |i,k+1=>ndC M i::ndL M (i+1) k
theorem qo1 {M:Mesh}:∀(k i:Nat) (l:List Node),M.ns.drop i=l→l.length=k→l.map zcm=ndL M i k
 |0,i,l,_,h=>by rw[List.eq_nil_of_length_eq_zero h];rfl
 |k+1,i,[],_,h=>by simp at h
 |k+1,i,x::l,hd,h=>by
  have e1:M.ns[i]? =some x:=by
   have:(M.ns.drop i)[0]? =some x:=by rw[hd];rfl
   simpa using this
  have e2:M.ns.drop (i+1)=l:=by
   have:=congrArg List.tail hd;simpa[List.tail_drop]using this
  show zcm x::l.map zcm=ndC M i::ndL M (i+1) k;rw[qo1 k (i+1) l e2 (by simpa using h)];have:nth M i=x:=by simp[nth,List.getD,e1]
  rw[ndC,this]
theorem qh8 {M:Mesh}{k:Nat}(h:M.ns.length=k):M.ns.map zcm=ndL M 0 k:=qo1 k 0 M.ns (by simp) h

end Go.G
