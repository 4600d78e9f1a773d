/-
  LAYER 24: the walks of a side, and of a mesh of one side.
-/
import Derived.Test.YtmhfcgpmmghakaaGreatDoorWl
import Derived.Test.YtmhfcgpmmghakaaGreatDoorWk
import Derived.Test.YtmhfcgpmmghakaaGreatDoorWi
import Derived.Test.YtmhfcgpmmghakaaGreatDoorWf
import Derived.Test.YtmhfcgpmmghakaaGreatDoorPq
import Derived.Test.YtmhfcgpmmghakaaGreatDoorFd
set_option linter.unusedSimpArgs false
set_option linter.unusedVariables false
namespace Go.Proofs.YtmhfcgpmmghakaaGreatDoor
open Go.AI Go.G
set_option maxRecDepth 20000
theorem qlj (l : FLk) (f : G.Frame) (h : OkL l) (he : zas f = 0) : Ct Tryz.prog 62 [st (flkC l), lst ((zhw f).map byteC)] [] [] (.tup [st (flkC (zgn l f).1), int (zgn l f).2]) [] := by
 obtain ⟨x, b, e⟩ := List.exists_cons_of_ne_nil (zwr f)
 have hl := zrw he
 have := qo3 (rlk l) x b h.lk (by rw [← e]; omega)
 rw [← e, zkh] at this
 rw [← zkh, ← zkh] at *
 have hs : qbx (rlk l) (zhw f) = (rlk (zgn l f).1, (zgn l f).2) := by
  unfold qbx zgn
  rw [h.sound, if_neg (by simp [he])]
  by_cases hq : 32 ≤ l.q.length
  ·rw [if_pos hq, zou (by simpa [rlk] using hq)]
  ·rw [if_neg hq, zot (by simpa [rlk] using hq)]; simp [rlk]
 rw [hs] at this
 exact this
theorem qba (l : FLk) (i : Int) (h : OkL l) : Ct Tryz.prog 55 [st (flkC l), int i] [] [] (.tup [st (flkC (zcs l i).1), lst ((if l.q = [] then [] else zhw (zcs l i).2.1).map byteC), int (zcs l i).2.2]) [] := by
 have := qos (rlk l) i h.lk
 rw [qa8 h] at this
 simpa only [zkh] using this
theorem zi9 (l : FLk) (h : OkL l) : Ct Tryz.prog 93 [st (flkC l)] [] [] (.tup [st (flkC (if l.epoch = 2147483647 then l else ⟨l.epoch + 1, []⟩)), int (if l.epoch = 2147483647 then 14 else 0)]) [] := by
 have := qlq (rlk l) h.lk.len
 unfold zw7 at this
 rw [h.sound] at this
 simp only [zkh] at this
 by_cases he : l.epoch = 2147483647
 ·rw [if_pos (show (rlk l).epoch = 2147483647 from he), zkh] at this
  simpa only [if_pos he] using this
 ·rw [if_neg (show ¬ (rlk l).epoch = 2147483647 from he)] at this
  simp only [if_neg he]
  have e : rlkC ⟨(rlk l).epoch + 1, []⟩ = flkC ⟨l.epoch + 1, []⟩ := rfl
  rw [e] at this
  exact this
attribute [simp] Tryz.ntmps79 Tryz.results79
theorem qjf (l : FLk) (f : G.Frame) (h : OkL l) (hf : OkFrame f) : Ct Tryz.prog 79 [st (flkC l), st (zaj f)] [] [] (.tup [st (flkC (zgn l f).1), int (zgn l f).2]) [] := by
 refine Ct.B Tryz.func79 mixed 9999 400 ?_
 simp
 by_cases he : zas f = 0
 ·have hl := zl2 (frameE_zero.1 he)
  refine CI.p (qrz f he) Tryz.call116 9999 ?_
  simp
  refine CI.p (qom (putB f) (by omega)) Tryz.call117 9999 ?_
  simp
  refine CI.p (qlj l f h he) Tryz.call62 9999 ?_ (ha := by simp [zhw])
  simp [zhw]
  first | exact fin0 (by simp) rfl | exact zac (by simp)
 ·refine CI.p (qpc f hf he) Tryz.call116 9999 ?_
  simp
  simp [he]
  first | exact fin0 (by simp [zgn, he]) rfl | exact zac (by simp [zgn, he])
abbrev zb4 (c : Cfg) (p : Store) (lost : Int) (v : Value) : Nat × Blk := (0, .cells [int c.sides, int c.cap, int c.limit, int c.max, int p.cap, lst (p.hist.map rsC), .d (.v v), int lost] 39)
abbrev zeh (c : Cfg) (p : Store) (lost : Int) (b : Nat) : Nat × Blk := (0, .cells [int c.sides, int c.cap, int c.limit, int c.max, int p.cap, lst (p.hist.map rsC), .own b, int lost] 39)
abbrev zci (n : G.Node) : Nat × Blk := (1, .cells ((qdh n).map .d) 102)
attribute [simp] Tryz.ntmps54 Tryz.results54
theorem zva (v : Value) (c : Cfg) (p : Store) (lost : Int) (n : G.Node) (l : List G.Frame) (hn : OkL n.up) (hf : ∀ f ∈ l, OkFrame f) (hl : l.length ≤ 1000) (h0 : 0 ≤ lost) (h1 : lost ≤ 1000000000000) : Ct Tryz.prog 54 [.ptr 0 0, .ptr 1 0, int 0, lst (l.map zaj)] [] [zb4 c p lost v, zci n] (.tup []) [zb4 c p (zee n.up lost l).2 v, zci { n with up := (zee n.up lost l).1 }] := by
 refine Ct.B Tryz.func54 mixed 9999 400 ?_
 simp
 refine LoopI.U mixed (l) (fun k => [(0, .ptr 0 0), (1, .ptr 1 0), (2, int 0), (12, lst (l.map zaj)), (13, int l.length), (14, int k.1)]) (fun k => [zb4 c p ((l.take k.1).foldl zap (n.up, lost)).2 v, zci { n with up := ((l.take k.1).foldl zap (n.up, lost)).1 }]) 64 [] (by constructor <;> simp) ?_
 rintro ⟨k, hk1⟩ B hB
 refine CI.run 9999 400 rfl ?_
 simp
 refine sBI (fun h => ?_) (fun h => ?_)
 ·have hk : k < (l).length := by simpa using h
  obtain ⟨f, hx, hr, hm, ht, hd⟩ := inL hk
  have hw := wr (k := k) (by omega)
  simp only [h]
  simp [hr, hw]
  have hz := zmp (l.take k) (z := (n.up, lost)) hn
  have hlen : (l.take k).length ≤ 1000 := by simp; omega
  have ht2 : (l.take (k + 1)).foldl zap (n.up, lost) = zap ((l.take k).foldl zap (n.up, lost)) f := by rw [ht, List.foldl_append]; rfl
  generalize (l.take k).foldl zap (n.up, lost) = z at hz ht2 ⊢
  refine CI.p (qjf z.1 f hz.1 (hf f hm)) Tryz.call79 9999 ?_
  simp
  refine ⟨by decide +kernel, ?_⟩
  have w1 : IntKind.wrap .i64 (z.2 + 1) = z.2 + 1 := zaa (by simp only at hz; omega) (by simp only at hz; omega)
  by_cases h2 : (zgn z.1 f).2 = 0
  ·have e : zap z f = ((zgn z.1 f).1, z.2) := if_pos h2
   rw [e] at ht2
   simp [h2]
   refine ⟨by decide +kernel, ?_⟩
   refine hB _ ⟨k + 1, by omega⟩ [] ?_ (by simp; omega)
   constructor <;> simp [hw, ht2]
  ·have e : zap z f = (z.1, z.2 + 1) := if_neg h2
   rw [e] at ht2
   simp [h2, w1]
   refine hB _ ⟨k + 1, by omega⟩ [] ?_ (by simp; omega)
   constructor <;> simp [hw, ht2]
 ·have hkl : k = (l).length := by simp at h; omega
  subst hkl
  simp only [h]
  simp [List.take_length, List.drop_length]
  first | (refine ⟨[], ?_, ?_, ?_, ?_, ?_, ?_, ?_⟩ <;> simp [nmF, inB, zee]; done) | (refine ⟨by decide +kernel, ?_⟩; refine ⟨[], ?_, ?_, ?_, ?_, ?_, ?_, ?_⟩ <;> simp [nmF, inB, zee])
theorem qlk (v : Value) (c : Cfg) (p : Store) (lost : Int) (n : G.Node) (l : List G.Frame) (hn : OkL n.dn) (hf : ∀ f ∈ l, OkFrame f) (hl : l.length ≤ 1000) (h0 : 0 ≤ lost) (h1 : lost ≤ 1000000000000) : Ct Tryz.prog 54 [.ptr 0 0, .ptr 1 0, int 1, lst (l.map zaj)] [] [zb4 c p lost v, zci n] (.tup []) [zb4 c p (zee n.dn lost l).2 v, zci { n with dn := (zee n.dn lost l).1 }] := by
 refine Ct.B Tryz.func54 mixed 9999 400 ?_
 simp
 refine LoopI.U mixed (l) (fun k => [(0, .ptr 0 0), (1, .ptr 1 0), (2, int 1), (12, lst (l.map zaj)), (13, int l.length), (14, int k.1)]) (fun k => [zb4 c p ((l.take k.1).foldl zap (n.dn, lost)).2 v, zci { n with dn := ((l.take k.1).foldl zap (n.dn, lost)).1 }]) 64 [] (by constructor <;> simp) ?_
 rintro ⟨k, hk1⟩ B hB
 refine CI.run 9999 400 rfl ?_
 simp
 refine sBI (fun h => ?_) (fun h => ?_)
 ·have hk : k < (l).length := by simpa using h
  obtain ⟨f, hx, hr, hm, ht, hd⟩ := inL hk
  have hw := wr (k := k) (by omega)
  simp only [h]
  simp [hr, hw]
  have hz := zmp (l.take k) (z := (n.dn, lost)) hn
  have hlen : (l.take k).length ≤ 1000 := by simp; omega
  have ht2 : (l.take (k + 1)).foldl zap (n.dn, lost) = zap ((l.take k).foldl zap (n.dn, lost)) f := by rw [ht, List.foldl_append]; rfl
  generalize (l.take k).foldl zap (n.dn, lost) = z at hz ht2 ⊢
  refine CI.p (qjf z.1 f hz.1 (hf f hm)) Tryz.call79 9999 ?_
  simp
  refine ⟨by decide +kernel, ?_⟩
  have w1 : IntKind.wrap .i64 (z.2 + 1) = z.2 + 1 := zaa (by simp only at hz; omega) (by simp only at hz; omega)
  by_cases h2 : (zgn z.1 f).2 = 0
  ·have e : zap z f = ((zgn z.1 f).1, z.2) := if_pos h2
   rw [e] at ht2
   simp [h2]
   refine ⟨by decide +kernel, ?_⟩
   refine hB _ ⟨k + 1, by omega⟩ [] ?_ (by simp; omega)
   constructor <;> simp [hw, ht2]
  ·have e : zap z f = (z.1, z.2 + 1) := if_neg h2
   rw [e] at ht2
   simp [h2, w1]
   refine hB _ ⟨k + 1, by omega⟩ [] ?_ (by simp; omega)
   constructor <;> simp [hw, ht2]
 ·have hkl : k = (l).length := by simp at h; omega
  subst hkl
  simp only [h]
  simp [List.take_length, List.drop_length]
  first | (refine ⟨[], ?_, ?_, ?_, ?_, ?_, ?_, ?_⟩ <;> simp [nmF, inB, zee]; done) | (refine ⟨by decide +kernel, ?_⟩; refine ⟨[], ?_, ?_, ?_, ?_, ?_, ?_, ?_⟩ <;> simp [nmF, inB, zee])
attribute [simp] Tryz.ntmps63 Tryz.results63
theorem qci (v : Value) (c : Cfg) (p : Store) (lost : Int) (n : G.Node) (hn : OkN n) (h0 : 0 ≤ lost) (h1 : lost ≤ 100000000000) : Ct Tryz.prog 63 [.ptr 0 0, .ptr 1 0] [] [zb4 c p lost v, zci n] (int (zb7 c.max lost n).2.2) [zb4 c p (zb7 c.max lost n).2.1 v, zci (zb7 c.max lost n).1] := by
 refine Ct.B Tryz.func63 mixed 9999 400 ?_
 simp
 by_cases h2 : n.up.epoch = 2147483647
 ·have e : zb7 c.max lost n = (n, lost, 14) := if_pos (.inl h2)
  rw [e]
  refine LoopI.unroll mixed (Plain.retC _ _ _ _ _) rfl ?_
  refine CI.run 9999 400 rfl ?_
  simp
  refine CI.p (zi9 n.up hn.up) Tryz.call93 9999 ?_
  simp
  simp [h2]
  first | (refine ⟨[], ?_, ?_, ?_, ?_, ?_, ?_, ?_⟩ <;> simp [nmF, inB, h2]; done) | (refine ⟨by decide +kernel, ?_⟩; refine ⟨[], ?_, ?_, ?_, ?_, ?_, ?_, ?_⟩ <;> simp [nmF, inB, h2])
 by_cases h3 : n.dn.epoch = 2147483647
 ·have e : zb7 c.max lost n = (n, lost, 14) := if_pos (.inr h3)
  rw [e]
  refine LoopI.unroll mixed (Plain.retC _ _ _ _ _) rfl ?_
  refine CI.run 9999 400 rfl ?_
  simp
  refine CI.p (zi9 n.up hn.up) Tryz.call93 9999 ?_
  simp
  simp [h2]
  refine LoopI.unroll mixed (Plain.retC _ _ _ _ _) rfl ?_
  refine CI.run 9999 400 rfl ?_
  simp
  refine CI.p (zi9 n.dn hn.dn) Tryz.call93 9999 ?_
  simp
  simp [h3]
  first | (refine ⟨[], ?_, ?_, ?_, ?_, ?_, ?_, ?_⟩ <;> simp [nmF, inB, h3]; done) | (refine ⟨by decide +kernel, ?_⟩; refine ⟨[], ?_, ?_, ?_, ?_, ?_, ?_, ?_⟩ <;> simp [nmF, inB, h3])
 have cc := hn.d.connect (n.up.epoch + 1)
 have e : zb7 c.max lost n = (⟨(zbk n.side (n.up.epoch + 1)).1, zbz (n.up.epoch + 1) c.max, (zee ⟨n.up.epoch + 1, []⟩ lost (zbk n.side (n.up.epoch + 1)).2.1).1, ⟨n.dn.epoch + 1, []⟩, n.pool⟩, (zee ⟨n.up.epoch + 1, []⟩ lost (zbk n.side (n.up.epoch + 1)).2.1).2, (zbk n.side (n.up.epoch + 1)).2.2) := if_neg (by omega)
 rw [e]
 have up := hn.up.fresh h2
 refine LoopI.unroll mixed (Plain.retC _ _ _ _ _) rfl ?_
 refine CI.run 9999 400 rfl ?_
 simp
 refine CI.p (zi9 n.up hn.up) Tryz.call93 9999 ?_
 simp
 simp [h2]
 refine LoopI.unroll mixed (Plain.retC _ _ _ _ _) rfl ?_
 refine CI.run 9999 400 rfl ?_
 simp
 refine CI.p (zi9 n.dn hn.dn) Tryz.call93 9999 ?_
 simp
 simp [h3]
 refine LoopI.unroll mixed (Plain.retC _ _ _ _ _) rfl ?_
 refine CI.run 9999 400 rfl ?_
 simp
 refine CI.p (zm8 (n.up.epoch + 1) c.max) Tryz.call28 9999 ?_
 simp
 refine CI.p (qe7 n.side (n.up.epoch + 1) hn.d.x) Tryz.call94 9999 ?_
 simp
 generalize zbk n.side (n.up.epoch + 1) = X at cc ⊢
 refine CI.cc [0,1] (zva v c p lost ⟨X.1, zbz (n.up.epoch + 1) c.max, ⟨n.up.epoch + 1, []⟩, ⟨n.dn.epoch + 1, []⟩, n.pool⟩ X.2.1 up cc.2.1 (by omega) h0 (by omega)) Tryz.call54 9999 ?_
 simp
 first | (refine ⟨[], ?_, ?_, ?_, ?_, ?_, ?_, ?_⟩ <;> simp [nmF, inB]; done) | (refine ⟨by decide +kernel, ?_⟩; refine ⟨[], ?_, ?_, ?_, ?_, ?_, ?_, ?_⟩ <;> simp [nmF, inB])
attribute [simp] Tryz.ntmps52 Tryz.results52
theorem qjg (v : Value) (c : Cfg) (p : Store) (lost : Int) (n : G.Node) (hn : OkN n) (hp : sanS p = true) (h0 : 0 ≤ lost) (h1 : lost ≤ 10000000000) : Ct Tryz.prog 52 [.ptr 0 0, .ptr 1 0] [] [zb4 c p lost v, zci n] (int (zgt c.max p lost n).2.2) [zb4 c p (zgt c.max p lost n).2.1 v, zci (zgt c.max p lost n).1] := by
 refine Ct.B Tryz.func52 mixed 9999 400 ?_
 simp
 have S := saneS_iff.1 hn.ss
 have hpl : p.hist.length ≤ 100000 := ((zb3 p).1 hp).2.1
 refine CI.p (qpe n.sess p hn.so (by have := S.hl; omega) (by omega) (fun _ => ⟨zfq (zvo hp), by have := tab_len (zvo hp); omega⟩)) Tryz.call78 9999 ?_
 simp
 refine ⟨by decide +kernel, ?_⟩
 obtain ⟨p1, p2, p3, p4, p5⟩ := zxd hn.ss hn.so hp
 unfold zgt
 dsimp only
 generalize pump n.sess p = R at p1 p2 p3 p4 ⊢
 have l := zfd hn.dn lost R.2.1
 refine CI.cc [0,1] (qlk v c p lost { n with sess := R.1 } R.2.1 hn.dn (fun f hf => zeg (p3 f hf).1) (by omega) h0 (by omega)) Tryz.call54 9999 ?_
 simp
 have hm : OkN { n with sess := R.1, dn := (zee n.dn lost R.2.1).1 } := ⟨hn.d, p1, p2, hn.up, hn.dn.send _ _, hn.pl⟩
 generalize zee n.dn lost R.2.1 = z at l hm ⊢
 refine sBI (fun h2 => ?_) (fun h2 => ?_) <;> simp only [h2] <;> simp <;> (try simp only [nT, nF, dT, dF] at h2)
 ·refine CI.cc [0,1] (qci v c p z.2 { n with sess := R.1, dn := z.1 } hm (by omega) (by omega)) Tryz.call63 9999 ?_
  simp
  first | (refine ⟨[], ?_, ?_, ?_, ?_, ?_, ?_, ?_⟩ <;> simp [nmF, inB, h2]; done) | (refine ⟨by decide +kernel, ?_⟩; refine ⟨[], ?_, ?_, ?_, ?_, ?_, ?_, ?_⟩ <;> simp [nmF, inB, h2])
 ·first | (refine ⟨[], ?_, ?_, ?_, ?_, ?_, ?_, ?_⟩ <;> simp [nmF, inB, h2]; done) | (refine ⟨by decide +kernel, ?_⟩; refine ⟨[], ?_, ?_, ?_, ?_, ?_, ?_, ?_⟩ <;> simp [nmF, inB, h2])
theorem qpf (b : Nat) (c : Cfg) (p : Store) (lost : Int) (n : G.Node) (hn : OkN n) (hp : sanS p = true) (h0 : 0 ≤ lost) (h1 : lost ≤ 10000000000) : Ct Tryz.prog 52 [.ptr 0 0, .ptr 1 0] [] [zeh c p lost b, zci n] (int (zgt c.max p lost n).2.2) [zeh c p (zgt c.max p lost n).2.1 b, zci (zgt c.max p lost n).1] :=
 Ct.hide (mr := []) (pre := [int c.sides, int c.cap, int c.limit, int c.max, int p.cap, lst (p.hist.map rsC)]) (pre' := [int c.sides, int c.cap, int c.limit, int c.max, int p.cap, lst (p.hist.map rsC)]) rfl fun v => qjg v c p lost n hn hp h0 h1
attribute [simp] Tryz.ntmps56 Tryz.results56
theorem qqs (f : G.Frame) (he : zas f = 0) : Ct Tryz.prog 56 [lst ((zhw f).map byteC)] [] [] (.tup [st (zaj f), int 0]) [] := by
 refine Ct.B Tryz.func56 mixed 9999 400 ?_
 simp
 have hl := zl2 (frameE_zero.1 he)
 obtain ⟨x, b, e⟩ := List.exists_cons_of_ne_nil (qls f)
 have et : zhw f = zmc (x :: b) := by rw [← e]; rfl
 rw [et]
 refine CI.p (qp7 x b (by rw [← e]; omega)) Tryz.call81 9999 ?_
 simp
 have eb : (x :: b).map byteC = (putB f).map byteC := by rw [e]
 refine CI.p (qsd f he) Tryz.call82 9999 ?_ (ha := by simp [← eb])
 simp [← eb]
 first | exact fin0 (by simp) rfl | exact zac (by simp)
attribute [simp] Tryz.ntmps24 Tryz.results24
theorem qqo (n : G.Node) (hn : OkN n) : Ct Tryz.prog 24 [.ptr 0 0] [(0, .cells ((qdh n).map .d) 102)] [] (bool (decide (n.up.q.length + n.dn.q.length + n.pool.tasks.length = 0))) [] := by
 refine Ct.B Tryz.func24 mixed 9999 400 ?_
 simp
 have l1 := hn.up.len
 have l2 := hn.dn.len
 have l3 := hn.pl.p.lt
 have w1 : IntKind.wrap .i64 ((n.up.q.length : Int) + n.dn.q.length) = (n.up.q.length : Int) + n.dn.q.length := zaa (by omega) (by omega)
 have w2 : IntKind.wrap .i64 ((n.up.q.length : Int) + n.dn.q.length + n.pool.tasks.length) = (n.up.q.length : Int) + n.dn.q.length + n.pool.tasks.length := zaa (by omega) (by omega)
 have e : (decide ((n.up.q.length : Int) + n.dn.q.length + n.pool.tasks.length = 0)) = decide (n.up.q.length + n.dn.q.length + n.pool.tasks.length = 0) := decide_eq_decide.2 (by omega)
 simp [w1, w2, e]
 refine ⟨by decide +kernel, ?_⟩
 first | (refine ⟨[], ?_, ?_, ?_, ?_, ?_, ?_, ?_⟩ <;> simp [nmF, inB]; done) | (refine ⟨by decide +kernel, ?_⟩; refine ⟨[], ?_, ?_, ?_, ?_, ?_, ?_, ?_⟩ <;> simp [nmF, inB])
attribute [simp] Tryz.ntmps40 Tryz.results40
theorem qn5 (v : Value) (c : Cfg) (p : Store) (lost : Int) (n : G.Node) (s : MStep) (hn : OkN n) : Ct Tryz.prog 40 [.ptr 0 0, .ptr 1 0, st (zbv s)] [] [zb4 c p lost v, zci n] (st (zen (zf9 lost n s).2.2)) [zb4 c p (zf9 lost n s).2.1 v, zci (zf9 lost n s).1] := by
 refine Ct.B Tryz.func40 mixed 9999 400 ?_
 simp
 refine CI.p (qk0 n.pool s.a hn.pl.p) Tryz.call64 9999 ?_
 simp
 refine ⟨by decide +kernel, ?_⟩
 first | (refine ⟨[], ?_, ?_, ?_, ?_, ?_, ?_, ?_⟩ <;> simp [nmF, inB, zf9, zAns]; done) | (refine ⟨by decide +kernel, ?_⟩; refine ⟨[], ?_, ?_, ?_, ?_, ?_, ?_, ?_⟩ <;> simp [nmF, inB, zf9, zAns])
attribute [simp] Tryz.ntmps39 Tryz.results39
theorem qof (v : Value) (c : Cfg) (p : Store) (lost : Int) (n : G.Node) (s : MStep) (hn : OkN n) (h0 : 0 ≤ lost) (h1 : lost ≤ 10000000000) : Ct Tryz.prog 39 [.ptr 0 0, .ptr 1 0, st (zbv s)] [] [zb4 c p lost v, zci n] (st (zen (outE (zb7 c.max lost n).2.2))) [zb4 c p (zb7 c.max lost n).2.1 v, zci (zb7 c.max lost n).1] := by
 refine Ct.B Tryz.func39 mixed 9999 400 ?_
 simp
 refine CI.cc [0,1] (qci v c p lost n hn h0 (by omega)) Tryz.call63 9999 ?_
 simp
 first | (refine ⟨[], ?_, ?_, ?_, ?_, ?_, ?_, ?_⟩ <;> simp [nmF, inB, outE, zAns]; done) | (refine ⟨by decide +kernel, ?_⟩; refine ⟨[], ?_, ?_, ?_, ?_, ?_, ?_, ?_⟩ <;> simp [nmF, inB, outE, zAns])
end Go.Proofs.YtmhfcgpmmghakaaGreatDoor
namespace Go.Proofs.YtmhfcgpmmghakaaGreatDoor
open Go.AI Go.G
set_option maxRecDepth 20000
attribute [simp] Tryz.ntmps34 Tryz.results34
theorem qis (v : Value) (c : Cfg) (p : Store) (lost : Int) (n : G.Node) (s : MStep) (hn : OkN n) (hp : sanS p = true) (hw : s.way = 0) (h0 : 0 ≤ lost) (h1 : lost ≤ 1000000000) : Ct Tryz.prog 34 [.ptr 0 0, .ptr 1 0, st (zbv s)] [] [zb4 c p lost v, zci n] (st (zen (zc2 c.max p lost n s).2.2)) [zb4 c p (zc2 c.max p lost n s).2.1 v, zci (zc2 c.max p lost n s).1] := by
 refine Ct.B Tryz.func34 mixed 9999 400 ?_
 simp
 have ht := hn.up.take s.n
 have e0 : wayN n s.way = n.up := if_pos hw
 have e1 : ∀ l, setW n s.way l = { n with up := l } := fun l => if_pos hw
 have hne : (zcs n.up s.n).2.2 = 0 → n.up.q ≠ [] := qa9
 unfold zc2
 rw [e0]
 dsimp only
 rw [e1]
 simp [hw]
 refine CI.p (qba n.up s.n hn.up) Tryz.call55 9999 ?_
 simp
 refine ⟨by decide +kernel, ?_⟩
 refine ⟨by decide +kernel, ?_⟩
 generalize zcs n.up s.n = t at ht hne ⊢
 by_cases h2 : t.2.2 = 0
 ·have hq := hne h2
  simp [h2, hw]
  refine CI.p (qqs t.2.1 (ht.2 h2)) Tryz.call56 9999 ?_ (ha := by simp [hq])
  simp [hq]
  have S := saneS_iff.1 hn.ss
  have hpl : p.hist.length ≤ 100000 := ((zb3 p).1 hp).2.1
  refine CI.p (qej n.sess p t.2.1 (by have := S.dl; omega) hn.so.v.push (by have := S.hl; omega) (zeg (ht.2 h2)) (ok_store hp) (by omega)) Tryz.call58 9999 ?_
  simp
  refine ⟨by decide +kernel, ?_⟩
  have k1 := ziu p t.2.1 hn.ss
  have k2 := zpc t.2.1 hn.ss hn.so hp
  generalize handle n.sess p t.2.1 = r at k1 k2 ⊢
  by_cases h3 : r.2 = 0
  ·simp [h3]
   refine CI.cc [0,1] (qjg v c p lost { n with up := t.1, sess := r.1 } ⟨hn.d, k1, k2, ht.1, hn.dn, hn.pl⟩ hp h0 (by omega)) Tryz.call52 9999 ?_
   simp
   first | (refine ⟨[], ?_, ?_, ?_, ?_, ?_, ?_, ?_⟩ <;> simp [nmF, inB, h3, outE, zAns]; done) | (refine ⟨by decide +kernel, ?_⟩; refine ⟨[], ?_, ?_, ?_, ?_, ?_, ?_, ?_⟩ <;> simp [nmF, inB, h3, outE, zAns])
  ·simp [h3]
   first | (refine ⟨[], ?_, ?_, ?_, ?_, ?_, ?_, ?_⟩ <;> simp [nmF, inB, h3, outE, zAns]; done) | (refine ⟨by decide +kernel, ?_⟩; refine ⟨[], ?_, ?_, ?_, ?_, ?_, ?_, ?_⟩ <;> simp [nmF, inB, h3, outE, zAns])
 ·simp [h2]
  first | (refine ⟨[], ?_, ?_, ?_, ?_, ?_, ?_, ?_⟩ <;> simp [nmF, inB, h2, outE, zAns]; done) | (refine ⟨by decide +kernel, ?_⟩; refine ⟨[], ?_, ?_, ?_, ?_, ?_, ?_, ?_⟩ <;> simp [nmF, inB, h2, outE, zAns])
theorem qir (v : Value) (c : Cfg) (p : Store) (lost : Int) (n : G.Node) (s : MStep) (hn : OkN n) (hp : sanS p = true) (hw : s.way = 1) (h0 : 0 ≤ lost) (h1 : lost ≤ 1000000000) : Ct Tryz.prog 34 [.ptr 0 0, .ptr 1 0, st (zbv s)] [] [zb4 c p lost v, zci n] (st (zen (zc2 c.max p lost n s).2.2)) [zb4 c p (zc2 c.max p lost n s).2.1 v, zci (zc2 c.max p lost n s).1] := by
 refine Ct.B Tryz.func34 mixed 9999 400 ?_
 simp
 have ht := hn.dn.take s.n
 have e0 : wayN n s.way = n.dn := if_neg (by omega)
 have e1 : ∀ l, setW n s.way l = { n with dn := l } := fun l => if_neg (by omega)
 have hne : (zcs n.dn s.n).2.2 = 0 → n.dn.q ≠ [] := qa9
 unfold zc2
 rw [e0]
 dsimp only
 rw [e1]
 simp [hw]
 refine CI.p (qba n.dn s.n hn.dn) Tryz.call55 9999 ?_
 simp
 refine ⟨by decide +kernel, ?_⟩
 refine ⟨by decide +kernel, ?_⟩
 generalize zcs n.dn s.n = t at ht hne ⊢
 by_cases h2 : t.2.2 = 0
 ·have hq := hne h2
  simp [h2, hw]
  refine CI.p (qqs t.2.1 (ht.2 h2)) Tryz.call56 9999 ?_ (ha := by simp [hq])
  simp [hq]
  refine CI.p (qk9 n.side t.2.1 hn.d.x (zeg (ht.2 h2))) Tryz.call57 9999 ?_
  simp
  refine ⟨by decide +kernel, ?_⟩
  have hs := hn.d.side t.2.1
  generalize zmo n.side t.2.1 = r at hs ⊢
  refine CI.cc [0,1] (zva v c p lost { n with dn := t.1, side := r.1 } r.2.1 hn.up hs.2.1 (by omega) h0 (by omega)) Tryz.call54 9999 ?_
  simp
  first | (refine ⟨[], ?_, ?_, ?_, ?_, ?_, ?_, ?_⟩ <;> simp [nmF, inB, outE, zAns]; done) | (refine ⟨by decide +kernel, ?_⟩; refine ⟨[], ?_, ?_, ?_, ?_, ?_, ?_, ?_⟩ <;> simp [nmF, inB, outE, zAns])
 ·simp [h2]
  first | (refine ⟨[], ?_, ?_, ?_, ?_, ?_, ?_, ?_⟩ <;> simp [nmF, inB, h2, outE, zAns]; done) | (refine ⟨by decide +kernel, ?_⟩; refine ⟨[], ?_, ?_, ?_, ?_, ?_, ?_, ?_⟩ <;> simp [nmF, inB, h2, outE, zAns])
theorem qnu (v : Value) (c : Cfg) (p : Store) (lost : Int) (n : G.Node) (s : MStep) (hn : OkN n) (hp : sanS p = true) (hw : s.way = 0 ∨ s.way = 1) (h0 : 0 ≤ lost) (h1 : lost ≤ 1000000000) : Ct Tryz.prog 34 [.ptr 0 0, .ptr 1 0, st (zbv s)] [] [zb4 c p lost v, zci n] (st (zen (zc2 c.max p lost n s).2.2)) [zb4 c p (zc2 c.max p lost n s).2.1 v, zci (zc2 c.max p lost n s).1] := by
 rcases hw with hw | hw
 ·exact qis v c p lost n s hn hp hw h0 h1
 ·exact qir v c p lost n s hn hp hw h0 h1
attribute [simp] Tryz.ntmps41 Tryz.results41
theorem qqt (v : Value) (c : Cfg) (p : Store) (lost : Int) (n : G.Node) (s : MStep) (hn : OkN n) (h0 : 0 ≤ lost) (h1 : lost ≤ 1000000000) : Ct Tryz.prog 41 [.ptr 0 0, .ptr 1 0, st (zbv s)] [] [zb4 c p lost v, zci n] (st (zen (zoc lost n s).2.2)) [zb4 c p (zoc lost n s).2.1 v, zci (zoc lost n s).1] := by
 refine Ct.B Tryz.func41 mixed 9999 400 ?_
 simp
 refine CI.p (qpj n.pool n.side s.n hn.pl.p hn.d.x hn.d.n hn.pl.a) Tryz.call65 9999 ?_
 simp
 refine ⟨by decide +kernel, ?_⟩
 refine ⟨by decide +kernel, ?_⟩
 have hk := hn.pl.pick hn.d s.n
 have hlast := qcy (p := n.pool) (s := n.side) (draw := s.n)
 unfold zoc
 dsimp only
 generalize zgw n.pool n.side s.n = r at hk hlast ⊢
 refine CI.cc [0,1] (zva v c p lost { n with pool := r.1, side := r.2.1 } r.2.2.1 hn.up hk.2.2.1 (by omega) h0 (by omega)) Tryz.call54 9999 ?_
 simp
 by_cases h2 : r.2.2.2 = 0
 ·by_cases h3 : r.1.tasks.length = n.pool.tasks.length
  ·have h3' : (r.1.tasks.length : Int) = n.pool.tasks.length := by omega
   simp [h2, h3']
   first | (refine ⟨[], ?_, ?_, ?_, ?_, ?_, ?_, ?_⟩ <;> simp [nmF, inB, h2, h3, outE, zAns]; done) | (refine ⟨by decide +kernel, ?_⟩; refine ⟨[], ?_, ?_, ?_, ?_, ?_, ?_, ?_⟩ <;> simp [nmF, inB, h2, h3, outE, zAns])
  ·have h3' : ¬ (r.1.tasks.length : Int) = n.pool.tasks.length := by omega
   obtain ⟨i, x, e⟩ := hlast h3
   have hd := hk.1.p.ld
   rw [e] at hd ⊢
   have w1 : IntKind.wrap .i64 (i.length : Int) = i.length := zaa (by omega) (by simp at hd; omega)
   have e9 : (i.length : Int) < i.length + 1 := by omega
   simp [h2, h3', e, w1, e9, zxy]
   first | (refine ⟨[], ?_, ?_, ?_, ?_, ?_, ?_, ?_⟩ <;> simp [nmF, inB, h2, h3, zAns, e]; done) | (refine ⟨by decide +kernel, ?_⟩; refine ⟨[], ?_, ?_, ?_, ?_, ?_, ?_, ?_⟩ <;> simp [nmF, inB, h2, h3, zAns, e])
 ·simp [h2]
  first | (refine ⟨[], ?_, ?_, ?_, ?_, ?_, ?_, ?_⟩ <;> simp [nmF, inB, h2, outE, zAns]; done) | (refine ⟨by decide +kernel, ?_⟩; refine ⟨[], ?_, ?_, ?_, ?_, ?_, ?_, ?_⟩ <;> simp [nmF, inB, h2, outE, zAns])
attribute [simp] Tryz.ntmps68 Tryz.results68
attribute [simp] Tryz.ntmps42 Tryz.results42
attribute [simp] Tryz.ntmps59 Tryz.results59
end Go.Proofs.YtmhfcgpmmghakaaGreatDoor
namespace Go.Proofs.YtmhfcgpmmghakaaGreatDoor
open Go.AI Go.G
set_option maxRecDepth 20000
abbrev qmg (i : Nat) (n : G.Node) : Nat × Blk := (i, .cells ((qdh n).map .d) 102)
abbrev B1 (M : G.Mesh) : List (Nat × Blk) := [zeh M.c M.p M.lost 1, (1, .grp [2] 96), qmg 2 (nth M 0)]
abbrev mPre (c : Cfg) (p : Store) : List AV := [int c.sides, int c.cap, int c.limit, int c.max, int p.cap, lst (p.hist.map rsC)]
attribute [simp] Tryz.ntmps12 Tryz.results12
theorem zd3 (M : G.Mesh) : Ct Tryz.prog 12 [.ptr 0 0] (B1 M) [] (int 1) [] := by
 refine Ct.B Tryz.func12 mixed 9999 400 ?_
 simp
 first | (refine ⟨[], ?_, ?_, ?_, ?_, ?_, ?_, ?_⟩ <;> simp [nmF, inB]; done) | (refine ⟨by decide +kernel, ?_⟩; refine ⟨[], ?_, ?_, ?_, ?_, ?_, ?_, ?_⟩ <;> simp [nmF, inB])
attribute [simp] Tryz.ntmps22 Tryz.results22
theorem zhl (M : G.Mesh) : Ct Tryz.prog 22 [.ptr 0 0, int 0] (B1 M) [] (.ptr 2 0) [] := by
 refine Ct.B Tryz.func22 mixed 9999 400 ?_
 simp
 refine CI.cc [0,1,2] (zd3 M) Tryz.call12 9999 ?_
 simp
 first | (refine ⟨[], ?_, ?_, ?_, ?_, ?_, ?_, ?_⟩ <;> simp [nmF, inB]; done) | (refine ⟨by decide +kernel, ?_⟩; refine ⟨[], ?_, ?_, ?_, ?_, ?_, ?_, ?_⟩ <;> simp [nmF, inB])
attribute [simp] Tryz.ntmps21 Tryz.results21
theorem qft (v : Value) (c : Cfg) (p : Store) (lost : Int) : Ct Tryz.prog 21 [.ptr 0 0, int 0] [] [zb4 c p lost v] (.fn (.func 32) [.ptr 0 0] []) [zb4 c p lost v] := by
 refine Ct.B Tryz.func21 mixed 9999 400 ?_
 simp
 first | (refine ⟨[], ?_, ?_, ?_, ?_, ?_, ?_, ?_⟩ <;> simp [nmF, inB]; done) | (refine ⟨by decide +kernel, ?_⟩; refine ⟨[], ?_, ?_, ?_, ?_, ?_, ?_, ?_⟩ <;> simp [nmF, inB])
theorem qfs (v : Value) (c : Cfg) (p : Store) (lost : Int) (k_ : Int) (h0 : ¬ k_ = 0) (h6 : ¬ k_ = 6) : Ct Tryz.prog 21 [.ptr 0 0, int k_] [] [zb4 c p lost v] (.d (.v .nilFunc)) [zb4 c p lost v] := by
 refine Ct.B Tryz.func21 mixed 9999 400 ?_
 simp
 simp [h0, h6]
 first | (refine ⟨[], ?_, ?_, ?_, ?_, ?_, ?_, ?_⟩ <;> simp [nmF, inB]; done) | (refine ⟨by decide +kernel, ?_⟩; refine ⟨[], ?_, ?_, ?_, ?_, ?_, ?_, ?_⟩ <;> simp [nmF, inB])
attribute [simp] Tryz.ntmps23 Tryz.results23
theorem qbr (v : Value) (c : Cfg) (p : Store) (lost : Int) : Ct Tryz.prog 23 [.ptr 0 0, int 1] [] [zb4 c p lost v] (.fn (.func 34) [.ptr 0 0] []) [zb4 c p lost v] := by
 refine Ct.B Tryz.func23 mixed 9999 400 ?_
 simp
 first | (refine ⟨[], ?_, ?_, ?_, ?_, ?_, ?_, ?_⟩ <;> simp [nmF, inB]; done) | (refine ⟨by decide +kernel, ?_⟩; refine ⟨[], ?_, ?_, ?_, ?_, ?_, ?_, ?_⟩ <;> simp [nmF, inB])
theorem qbp (v : Value) (c : Cfg) (p : Store) (lost : Int) : Ct Tryz.prog 23 [.ptr 0 0, int 5] [] [zb4 c p lost v] (.fn (.func 39) [.ptr 0 0] []) [zb4 c p lost v] := by
 refine Ct.B Tryz.func23 mixed 9999 400 ?_
 simp
 first | (refine ⟨[], ?_, ?_, ?_, ?_, ?_, ?_, ?_⟩ <;> simp [nmF, inB]; done) | (refine ⟨by decide +kernel, ?_⟩; refine ⟨[], ?_, ?_, ?_, ?_, ?_, ?_, ?_⟩ <;> simp [nmF, inB])
theorem qbn (v : Value) (c : Cfg) (p : Store) (lost : Int) : Ct Tryz.prog 23 [.ptr 0 0, int 7] [] [zb4 c p lost v] (.fn (.func 40) [.ptr 0 0] []) [zb4 c p lost v] := by
 refine Ct.B Tryz.func23 mixed 9999 400 ?_
 simp
 first | (refine ⟨[], ?_, ?_, ?_, ?_, ?_, ?_, ?_⟩ <;> simp [nmF, inB]; done) | (refine ⟨by decide +kernel, ?_⟩; refine ⟨[], ?_, ?_, ?_, ?_, ?_, ?_, ?_⟩ <;> simp [nmF, inB])
theorem qbl (v : Value) (c : Cfg) (p : Store) (lost : Int) : Ct Tryz.prog 23 [.ptr 0 0, int 8] [] [zb4 c p lost v] (.fn (.func 41) [.ptr 0 0] []) [zb4 c p lost v] := by
 refine Ct.B Tryz.func23 mixed 9999 400 ?_
 simp
 first | (refine ⟨[], ?_, ?_, ?_, ?_, ?_, ?_, ?_⟩ <;> simp [nmF, inB]; done) | (refine ⟨by decide +kernel, ?_⟩; refine ⟨[], ?_, ?_, ?_, ?_, ?_, ?_, ?_⟩ <;> simp [nmF, inB])
attribute [simp] Tryz.ntmps30 Tryz.results30
theorem qfr (a b : Int) : Ct Tryz.prog 30 [int a, int b] [] [] (bool (decide (0 ≤ a) && decide (a ≤ b))) [] := by
 refine Ct.B Tryz.func30 mixed 9999 400 ?_
 simp
 repeat' first
  | (refine sGI (fun h => ?_) (fun h => ?_) <;> simp only [h] <;> simp [h])
  | (refine sBI (fun h => ?_) (fun h => ?_) <;> simp only [h] <;> simp [h])
  | (refine ⟨(show zaq _ _ from by decide +kernel), ?_⟩)
  | fail
 all_goals exact fin0 (by simp [*]) rfl
attribute [simp] Tryz.ntmps31 Tryz.results31
theorem qml : Ct Tryz.prog 31 [] [] [] (.agg [str ⟨#[117, 112, 100, 97, 116, 101]⟩, str ⟨#[98, 114, 105, 110, 103]⟩, str ⟨#[108, 111, 115, 101]⟩, str ⟨#[97, 103, 97, 105, 110]⟩, str ⟨#[108, 97, 116, 101]⟩, str ⟨#[114, 101, 110, 101, 119]⟩, str ⟨#[116, 105, 99, 107]⟩, str ⟨#[98, 101, 103, 105, 110]⟩, str ⟨#[103, 111]⟩, str ⟨#[116, 101, 108, 108]⟩]) [] := by
 refine Ct.B Tryz.func31 mixed 9999 400 ?_
 simp
 first | exact fin0 (by simp) rfl | exact zac (by simp)
attribute [simp] Tryz.ntmps20 Tryz.results20
theorem zs7 (k_ : Int) (h0 : 0 ≤ k_) (h9 : k_ ≤ 9) : Ct Tryz.prog 20 [int k_] [] [] (str (([⟨#[117, 112, 100, 97, 116, 101]⟩, ⟨#[98, 114, 105, 110, 103]⟩, ⟨#[108, 111, 115, 101]⟩, ⟨#[97, 103, 97, 105, 110]⟩, ⟨#[108, 97, 116, 101]⟩, ⟨#[114, 101, 110, 101, 119]⟩, ⟨#[116, 105, 99, 107]⟩, ⟨#[98, 101, 103, 105, 110]⟩, ⟨#[103, 111]⟩, ⟨#[116, 101, 108, 108]⟩] : List Str).getD k_.toNat ⟨#[]⟩)) [] := by
 refine Ct.B Tryz.func20 mixed 9999 400 ?_
 simp
 refine CI.p (qfr k_ 9) Tryz.call30 9999 ?_
 simp
 have e : k_ = 0 ∨ k_ = 1 ∨ k_ = 2 ∨ k_ = 3 ∨ k_ = 4 ∨ k_ = 5 ∨ k_ = 6 ∨ k_ = 7 ∨ k_ = 8 ∨ k_ = 9 := by omega
 rcases e with e | e | e | e | e | e | e | e | e | e
 all_goals
  subst e
 all_goals
  simp
  refine CI.p qml Tryz.call31 9999 ?_
  simp
  first | exact fin0 (by simp) rfl | exact zac (by simp)
end Go.Proofs.YtmhfcgpmmghakaaGreatDoor
namespace Go.Proofs.YtmhfcgpmmghakaaGreatDoor
open Go.AI Go.G
set_option maxRecDepth 20000
section
variable (b : Nat) (c : Cfg) (p : Store) (lost : Int)
theorem qfu : Ct Tryz.prog 21 [.ptr 0 0, int 0] [] [zeh c p lost b] (.fn (.func 32) [.ptr 0 0] []) [zeh c p lost b] := Ct.hide (mr := []) (pre := mPre c p) (pre' := mPre c p) (post := [int lost]) (post' := [int lost]) rfl fun v => qft v c p lost
theorem zlw (k_ : Int) (h0 : ¬ k_ = 0) (h6 : ¬ k_ = 6) : Ct Tryz.prog 21 [.ptr 0 0, int k_] [] [zeh c p lost b] (.d (.v .nilFunc)) [zeh c p lost b] := Ct.hide (mr := []) (pre := mPre c p) (pre' := mPre c p) (post := [int lost]) (post' := [int lost]) rfl fun v => qfs v c p lost k_ h0 h6
theorem qbs : Ct Tryz.prog 23 [.ptr 0 0, int 1] [] [zeh c p lost b] (.fn (.func 34) [.ptr 0 0] []) [zeh c p lost b] := Ct.hide (mr := []) (pre := mPre c p) (pre' := mPre c p) (post := [int lost]) (post' := [int lost]) rfl fun v => qbr v c p lost
theorem qbq : Ct Tryz.prog 23 [.ptr 0 0, int 5] [] [zeh c p lost b] (.fn (.func 39) [.ptr 0 0] []) [zeh c p lost b] := Ct.hide (mr := []) (pre := mPre c p) (pre' := mPre c p) (post := [int lost]) (post' := [int lost]) rfl fun v => qbp v c p lost
theorem qbo : Ct Tryz.prog 23 [.ptr 0 0, int 7] [] [zeh c p lost b] (.fn (.func 40) [.ptr 0 0] []) [zeh c p lost b] := Ct.hide (mr := []) (pre := mPre c p) (pre' := mPre c p) (post := [int lost]) (post' := [int lost]) rfl fun v => qbn v c p lost
theorem qbm : Ct Tryz.prog 23 [.ptr 0 0, int 8] [] [zeh c p lost b] (.fn (.func 41) [.ptr 0 0] []) [zeh c p lost b] := Ct.hide (mr := []) (pre := mPre c p) (pre' := mPre c p) (post := [int lost]) (post' := [int lost]) rfl fun v => qbl v c p lost
variable (n : G.Node) (s : MStep)
theorem qog (hn : OkN n) (h0 : 0 ≤ lost) (h1 : lost ≤ 1000000000) : Ct Tryz.prog 39 [.ptr 0 0, .ptr 1 0, st (zbv s)] [] [zeh c p lost b, zci n] (st (zen (outE (zb7 c.max lost n).2.2))) [zeh c p (zb7 c.max lost n).2.1 b, zci (zb7 c.max lost n).1] := Ct.hide (mr := []) (pre := mPre c p) (pre' := mPre c p) (post := [int lost]) (post' := [int (zb7 c.max lost n).2.1]) rfl fun v => qof v c p lost n s hn h0 (by omega)
theorem qn6 (hn : OkN n) : Ct Tryz.prog 40 [.ptr 0 0, .ptr 1 0, st (zbv s)] [] [zeh c p lost b, zci n] (st (zen (zf9 lost n s).2.2)) [zeh c p (zf9 lost n s).2.1 b, zci (zf9 lost n s).1] := Ct.hide (mr := []) (pre := mPre c p) (pre' := mPre c p) (post := [int lost]) (post' := [int (zf9 lost n s).2.1]) rfl fun v => qn5 v c p lost n s hn
theorem qqu (hn : OkN n) (h0 : 0 ≤ lost) (h1 : lost ≤ 1000000000) : Ct Tryz.prog 41 [.ptr 0 0, .ptr 1 0, st (zbv s)] [] [zeh c p lost b, zci n] (st (zen (zoc lost n s).2.2)) [zeh c p (zoc lost n s).2.1 b, zci (zoc lost n s).1] := Ct.hide (mr := []) (pre := mPre c p) (pre' := mPre c p) (post := [int lost]) (post' := [int (zoc lost n s).2.1]) rfl fun v => qqt v c p lost n s hn h0 h1
theorem qnv (hn : OkN n) (hp : sanS p = true) (h0 : 0 ≤ lost) (h1 : lost ≤ 1000000000) (hw : s.way = 0 ∨ s.way = 1) : Ct Tryz.prog 34 [.ptr 0 0, .ptr 1 0, st (zbv s)] [] [zeh c p lost b, zci n] (st (zen (zc2 c.max p lost n s).2.2)) [zeh c p (zc2 c.max p lost n s).2.1 b, zci (zc2 c.max p lost n s).1] := Ct.hide (mr := []) (pre := mPre c p) (pre' := mPre c p) (post := [int lost]) (post' := [int (zc2 c.max p lost n s).2.1]) rfl fun v => qnu v c p lost n s hn hp hw h0 h1
end
attribute [simp] Tryz.ntmps32 Tryz.results32
theorem qa4 (M : G.Mesh) (s : MStep) (B : Int) (hk : M.ns.length = 1) (hM : OkM M B) (hB : B ≤ 100000000) (hs : OkSt s) : CtJ errG Tryz.prog 32 [.ptr 0 0, st (zbv s)] [] (B1 M) (st (zen (zic M s).2)) (B1 (zic M s).1) := by
 refine CtJ.B errK Tryz.func32 mixed 9999 400 ?_
 simp
 have l0 := hM.l0
 have l1 := hM.l1
 have hm0 := hM.p
 have hlast := zw4 hm0
 have hlt := tab_len hlast.tab
 have hh := ((zb3 M.p).1 hm0).2.1
 have ha := hs.adds
 have hg := hs.gone
 have hP := qfp M.p s.adds s.gone (by omega) (by rw [ze8 hm0]; exact qjj hlast.tab) (by rw [ze8 hm0]; omega) (by omega)
 rw [ze8 hm0] at hP
 have hp := zr7 hm0 s.adds s.gone
 have n0 := zm6 hM (i := 0) (by omega)
 refine CI.j [] hP Tryz.call51 9999 ?_
 simp
 refine ⟨by decide +kernel, ?_⟩
 unfold zic
 dsimp only
 rw [ns1 hk]
 generalize zqa M.p s.adds s.gone = q at hp ⊢
 generalize zh0 M.p s.adds s.gone = e
 by_cases h1 : e = 0
 ·simp [h1]
  have hq := ((zb3 q).1 hp).2.1
  refine CI.p (qg8 q (by omega)) Tryz.call44 9999 ?_
  simp
  refine LoopI.rounds 2 ?_
  refine RoundsI.step mixed rfl ?_
  refine CI.run 9999 400 rfl ?_
  simp
  refine CI.cc [0,2,1] (qpf 2 M.c q M.lost (nth M 0) n0 hp l0 (by omega)) Tryz.call52 9999 ?_
  simp
  refine RoundsI.step mixed rfl ?_
  refine CI.run 9999 400 rfl ?_
  simp
  first | (refine ⟨[], ?_, ?_, ?_, ?_, ?_, ?_, ?_⟩ <;> simp [nmF, inB, zcd, h1, zAns, nowI]; done) | (refine ⟨by decide +kernel, ?_⟩; refine ⟨[], ?_, ?_, ?_, ?_, ?_, ?_, ?_⟩ <;> simp [nmF, inB, zcd, h1, zAns, nowI])
 ·simp [h1]
  first | (refine ⟨[], ?_, ?_, ?_, ?_, ?_, ?_, ?_⟩ <;> simp [nmF, inB, h1, outE, zAns]; done) | (refine ⟨by decide +kernel, ?_⟩; refine ⟨[], ?_, ?_, ?_, ?_, ?_, ?_, ?_⟩ <;> simp [nmF, inB, h1, outE, zAns])
end Go.Proofs.YtmhfcgpmmghakaaGreatDoor
namespace Go.Proofs.YtmhfcgpmmghakaaGreatDoor
open Go.AI Go.G
set_option maxRecDepth 20000
attribute [simp] Tryz.ntmps7 Tryz.results7
theorem qkz (M : G.Mesh) (s : MStep) (B : Int) (hk : M.ns.length = 1) (hM : OkM M B) (hB : B ≤ 100000000) (hs : OkSt s) (h : s.kind = 0) : CtJ errG Tryz.prog 7 [.ptr 0 0, st (zbv s)] [] (B1 M) (st (zen (zc7 M s).2)) (B1 (zc7 M s).1) := by
 refine CtJ.B errK Tryz.func7 mixed 9999 400 ?_
 simp
 rw [qkp (by intro e; rw [e] at hk; simp at hk) h]
 refine CI.cc [0,1,2] (zd3 M) Tryz.call12 9999 ?_
 simp
 simp [h]
 refine CI.p (zs7 0 (by omega) (by omega)) Tryz.call20 9999 ?_
 simp
 refine CI.cc [0,1] (qfu 1 M.c M.p M.lost) Tryz.call21 9999 ?_
 simp
 refine CI.j [0,1,2] (qa4 M s B hk hM hB hs) Tryz.call32 9999 ?_ (ha := by simp [h]) (hk := by simp [h])
 simp [h]
 first | (refine ⟨[], ?_, ?_, ?_, ?_, ?_, ?_, ?_⟩ <;> simp [nmF, inB]; done) | (refine ⟨by decide +kernel, ?_⟩; refine ⟨[], ?_, ?_, ?_, ?_, ?_, ?_, ?_⟩ <;> simp [nmF, inB])
theorem qbf (M : G.Mesh) (s : MStep) (B : Int) (hk : M.ns.length = 1) (hM : OkM M B) (hB : B ≤ 100000000) (hi : s.side = 0) (h : s.kind = 1) (hw : s.way = 0 ∨ s.way = 1) : CtJ errG Tryz.prog 7 [.ptr 0 0, st (zbv s)] [] (B1 M) (st (zen (zc7 M s).2)) (B1 (zc7 M s).1) := by
 refine CtJ.B errK Tryz.func7 mixed 9999 400 ?_
 simp
 have l0 := hM.l0
 have l1 := hM.l1
 have hm0 := hM.p
 have n0 := zm6 hM (i := 0) (by omega)
 have c1 : ¬ s.way < 0 := by omega
 have c2 : ¬ 2 ≤ s.way := by omega
 rw [zi3 hk (by omega) (by omega) (by omega) hi (fun _ => hw)]
 refine CI.cc [0,1,2] (zd3 M) Tryz.call12 9999 ?_
 simp
 simp [h]
 refine CI.p (zs7 1 (by omega) (by omega)) Tryz.call20 9999 ?_
 simp
 refine CI.cc [0,1] (zlw 1 M.c M.p M.lost 1 (by omega) (by omega)) Tryz.call21 9999 ?_
 simp
 simp [hi]
 refine CI.cc [0,1,2] (zhl M) Tryz.call22 9999 ?_
 simp
 simp [h, c1, c2]
 refine CI.cc [0,1] (qbs 1 M.c M.p M.lost) Tryz.call23 9999 ?_
 simp
 refine CI.cc [0,2,1] (qnv 2 M.c M.p M.lost (nth M 0) s n0 hm0 l0 (by omega) hw) Tryz.call34 9999 ?_ (ha := by simp [h, hi]) (hk := by simp [h, hi])
 simp [h, hi]
 first | (refine ⟨[], ?_, ?_, ?_, ?_, ?_, ?_, ?_⟩ <;> simp [nmF, inB, zcb, h]; done) | (refine ⟨by decide +kernel, ?_⟩; refine ⟨[], ?_, ?_, ?_, ?_, ?_, ?_, ?_⟩ <;> simp [nmF, inB, zcb, h])
theorem qky (M : G.Mesh) (s : MStep) (B : Int) (hk : M.ns.length = 1) (hM : OkM M B) (hB : B ≤ 100000000) (hi : s.side = 0) (h : s.kind = 5) : CtJ errG Tryz.prog 7 [.ptr 0 0, st (zbv s)] [] (B1 M) (st (zen (zc7 M s).2)) (B1 (zc7 M s).1) := by
 refine CtJ.B errK Tryz.func7 mixed 9999 400 ?_
 simp
 have l0 := hM.l0
 have l1 := hM.l1
 have hm0 := hM.p
 have n0 := zm6 hM (i := 0) (by omega)
 rw [zi3 hk (by omega) (by omega) (by omega) hi (by omega)]
 refine CI.cc [0,1,2] (zd3 M) Tryz.call12 9999 ?_
 simp
 simp [h]
 refine CI.p (zs7 5 (by omega) (by omega)) Tryz.call20 9999 ?_
 simp
 refine CI.cc [0,1] (zlw 1 M.c M.p M.lost 5 (by omega) (by omega)) Tryz.call21 9999 ?_
 simp
 simp [hi]
 refine CI.cc [0,1,2] (zhl M) Tryz.call22 9999 ?_
 simp
 refine CI.cc [0,1] (qbq 1 M.c M.p M.lost) Tryz.call23 9999 ?_
 simp
 refine CI.cc [0,2,1] (qog 2 M.c M.p M.lost (nth M 0) s n0 l0 (by omega)) Tryz.call39 9999 ?_ (ha := by simp [h, hi]) (hk := by simp [h, hi])
 simp [h, hi]
 first | (refine ⟨[], ?_, ?_, ?_, ?_, ?_, ?_, ?_⟩ <;> simp [nmF, inB, zcb, h]; done) | (refine ⟨by decide +kernel, ?_⟩; refine ⟨[], ?_, ?_, ?_, ?_, ?_, ?_, ?_⟩ <;> simp [nmF, inB, zcb, h])
theorem qkx (M : G.Mesh) (s : MStep) (B : Int) (hk : M.ns.length = 1) (hM : OkM M B) (hB : B ≤ 100000000) (hi : s.side = 0) (h : s.kind = 7) : CtJ errG Tryz.prog 7 [.ptr 0 0, st (zbv s)] [] (B1 M) (st (zen (zc7 M s).2)) (B1 (zc7 M s).1) := by
 refine CtJ.B errK Tryz.func7 mixed 9999 400 ?_
 simp
 have l0 := hM.l0
 have l1 := hM.l1
 have hm0 := hM.p
 have n0 := zm6 hM (i := 0) (by omega)
 rw [zi3 hk (by omega) (by omega) (by omega) hi (by omega)]
 refine CI.cc [0,1,2] (zd3 M) Tryz.call12 9999 ?_
 simp
 simp [h]
 refine CI.p (zs7 7 (by omega) (by omega)) Tryz.call20 9999 ?_
 simp
 refine CI.cc [0,1] (zlw 1 M.c M.p M.lost 7 (by omega) (by omega)) Tryz.call21 9999 ?_
 simp
 simp [hi]
 refine CI.cc [0,1,2] (zhl M) Tryz.call22 9999 ?_
 simp
 refine CI.cc [0,1] (qbo 1 M.c M.p M.lost) Tryz.call23 9999 ?_
 simp
 refine CI.cc [0,2,1] (qn6 2 M.c M.p M.lost (nth M 0) s n0) Tryz.call40 9999 ?_ (ha := by simp [h, hi]) (hk := by simp [h, hi])
 simp [h, hi]
 first | (refine ⟨[], ?_, ?_, ?_, ?_, ?_, ?_, ?_⟩ <;> simp [nmF, inB, zcb, h]; done) | (refine ⟨by decide +kernel, ?_⟩; refine ⟨[], ?_, ?_, ?_, ?_, ?_, ?_, ?_⟩ <;> simp [nmF, inB, zcb, h])
theorem qkw (M : G.Mesh) (s : MStep) (B : Int) (hk : M.ns.length = 1) (hM : OkM M B) (hB : B ≤ 100000000) (hi : s.side = 0) (h : s.kind = 8) : CtJ errG Tryz.prog 7 [.ptr 0 0, st (zbv s)] [] (B1 M) (st (zen (zc7 M s).2)) (B1 (zc7 M s).1) := by
 refine CtJ.B errK Tryz.func7 mixed 9999 400 ?_
 simp
 have l0 := hM.l0
 have l1 := hM.l1
 have hm0 := hM.p
 have n0 := zm6 hM (i := 0) (by omega)
 rw [zi3 hk (by omega) (by omega) (by omega) hi (by omega)]
 refine CI.cc [0,1,2] (zd3 M) Tryz.call12 9999 ?_
 simp
 simp [h]
 refine CI.p (zs7 8 (by omega) (by omega)) Tryz.call20 9999 ?_
 simp
 refine CI.cc [0,1] (zlw 1 M.c M.p M.lost 8 (by omega) (by omega)) Tryz.call21 9999 ?_
 simp
 simp [hi]
 refine CI.cc [0,1,2] (zhl M) Tryz.call22 9999 ?_
 simp
 refine CI.cc [0,1] (qbm 1 M.c M.p M.lost) Tryz.call23 9999 ?_
 simp
 refine CI.cc [0,2,1] (qqu 2 M.c M.p M.lost (nth M 0) s n0 l0 (by omega)) Tryz.call41 9999 ?_ (ha := by simp [h, hi]) (hk := by simp [h, hi])
 simp [h, hi]
 first | (refine ⟨[], ?_, ?_, ?_, ?_, ?_, ?_, ?_⟩ <;> simp [nmF, inB, zcb, h]; done) | (refine ⟨by decide +kernel, ?_⟩; refine ⟨[], ?_, ?_, ?_, ?_, ?_, ?_, ?_⟩ <;> simp [nmF, inB, zcb, h])
end Go.Proofs.YtmhfcgpmmghakaaGreatDoor
namespace Go.Proofs.YtmhfcgpmmghakaaGreatDoor
open Go.AI Go.G
set_option maxRecDepth 20000
theorem qm8 (n : G.Node) (hn : OkN n) : Ct Tryz.prog 24 [.ptr 0 0] [(0, .cells ((qdh n).map .d) 102)] [] (bool (qm7 n)) [] := qqo n hn
abbrev BNe (c : Cfg) (p : Store) (lost : Int) (n : G.Node) : List (Nat × Blk) := [(64, .cells [int c.sides, int c.cap, int c.limit, int c.max, int p.cap, lst (p.hist.map rsC), .own 65, int lost] 39), (65, .grp [66] 96), qmg 66 n]
attribute [simp] Tryz.ntmps16 Tryz.results16
theorem qp8 : Ct Tryz.prog 16 [st (cfgC ⟨1, 9, 9, 99⟩)] [] [] (.ptr 64 0) (BNe ⟨1, 9, 9, 99⟩ (newS 9) 0 (zda ⟨1, 9, 9, 99⟩)) := by
 refine Ct.B Tryz.func16 mixed 9999 400 ?_
 simp
 refine CI.p (qjn 9) Tryz.call26 9999 ?_
 simp
 refine ⟨by decide +kernel, ?_⟩
 refine LoopI.unroll mixed (Plain.retC _ _ _ _ _) rfl ?_
 refine CI.run 9999 400 rfl ?_
 simp
 refine CI.p (qdj 9 99) Tryz.call27 9999 ?_
 simp
 refine CI.p (zm8 0 99) Tryz.call28 9999 ?_
 simp
 refine ⟨by decide +kernel, ?_⟩
 refine LoopI.unroll mixed (Plain.retC _ _ _ _ _) rfl ?_
 refine CI.run 6 400 rfl ?_
 simp
 refine CI.s (tm := [(3, .ptr 512 0)]) (mm := [(512, .cells [int 1, int 9, int 9, int 99, int (newS 9).cap, lst ((newS 9).hist.map rsC), .own 2048, int 0] 39), (2048, .grp [1920] 96), (1920, .cells ((qdh (zda ⟨1, 9, 9, 99⟩)).map .d) 102)]) (nx := 2112) [] [] (by constructor <;> simp [zda, zPool]) ?_
 refine CI.run 9999 400 rfl ?_
 simp
 first | (refine ⟨[(64, 512), (65, 2048), (66, 1920)], ?_, ?_, ?_, ?_, ?_, ?_, ?_⟩ <;> simp [nmF, inB]; done) | (refine ⟨by decide +kernel, ?_⟩; refine ⟨[(64, 512), (65, 2048), (66, 1920)], ?_, ?_, ?_, ?_, ?_, ?_, ?_⟩ <;> simp [nmF, inB])
attribute [simp] Tryz.ntmps10 Tryz.results10
theorem qj4 (M : G.Mesh) : Ct Tryz.prog 10 [.ptr 0 0, int 0, int 0] (B1 M) [] (.tup [st (flkC (nth M 0).up), bool true]) [] := by
 refine Ct.B Tryz.func10 mixed 9999 400 ?_
 simp
 refine CI.cc [0,1,2] (zhl M) Tryz.call22 9999 ?_
 simp
 first | (refine ⟨[], ?_, ?_, ?_, ?_, ?_, ?_, ?_⟩ <;> simp [nmF, inB]; done) | (refine ⟨by decide +kernel, ?_⟩; refine ⟨[], ?_, ?_, ?_, ?_, ?_, ?_, ?_⟩ <;> simp [nmF, inB])
theorem qj3 (M : G.Mesh) : Ct Tryz.prog 10 [.ptr 0 0, int 0, int 1] (B1 M) [] (.tup [st (flkC (nth M 0).dn), bool true]) [] := by
 refine Ct.B Tryz.func10 mixed 9999 400 ?_
 simp
 refine CI.cc [0,1,2] (zhl M) Tryz.call22 9999 ?_
 simp
 first | (refine ⟨[], ?_, ?_, ?_, ?_, ?_, ?_, ?_⟩ <;> simp [nmF, inB]; done) | (refine ⟨by decide +kernel, ?_⟩; refine ⟨[], ?_, ?_, ?_, ?_, ?_, ?_, ?_⟩ <;> simp [nmF, inB])
attribute [simp] Tryz.ntmps14 Tryz.results14
theorem zzc (M : G.Mesh) (B : Int) (hk : M.ns.length = 1) (hM : OkM M B) : Ct Tryz.prog 14 [.ptr 0 0] (B1 M) [] (bool (zp2 M)) [] := by
 refine Ct.B Tryz.func14 mixed 9999 400 ?_
 simp
 have n0 := zm6 hM (i := 0) (by omega)
 have S := saneS_iff.1 n0.ss
 have hh := ((zb3 M.p).1 hM.p).2.1
 unfold zp2
 rw [ns1 hk]
 refine CI.cc [0,1,2] (zd3 M) Tryz.call12 9999 ?_
 simp
 refine LoopI.unroll mixed (Plain.retC _ _ _ _ _) rfl ?_
 refine CI.run 9999 400 rfl ?_
 simp
 refine CI.cc [2] (qm8 (nth M 0) n0) Tryz.call24 9999 ?_
 simp
 cases h1 : qm7 (nth M 0) with
 | false =>
   simp [h1]
   first | (refine ⟨[], ?_, ?_, ?_, ?_, ?_, ?_, ?_⟩ <;> simp [nmF, inB, h1]; done) | (refine ⟨by decide +kernel, ?_⟩; refine ⟨[], ?_, ?_, ?_, ?_, ?_, ?_, ?_⟩ <;> simp [nmF, inB, h1])
 | true =>
   simp [h1]
   refine CI.p (qbu (nth M 0).sess M.p n0.so (by have := S.hl; omega) (by omega)) Tryz.call25 9999 ?_
   simp
   cases h2 : zi5 (nth M 0).sess M.p with
   | false =>
     simp [h2]
     first | (refine ⟨[], ?_, ?_, ?_, ?_, ?_, ?_, ?_⟩ <;> simp [nmF, inB, h1, h2]; done) | (refine ⟨by decide +kernel, ?_⟩; refine ⟨[], ?_, ?_, ?_, ?_, ?_, ?_, ?_⟩ <;> simp [nmF, inB, h1, h2])
   | true =>
     simp [h2]
     refine ⟨by decide +kernel, ?_⟩
     refine LoopI.unroll mixed (Plain.retC _ _ _ _ _) rfl ?_
     refine CI.run 9999 400 rfl ?_
     simp
     first | (refine ⟨[], ?_, ?_, ?_, ?_, ?_, ?_, ?_⟩ <;> simp [nmF, inB, h1, h2]; done) | (refine ⟨by decide +kernel, ?_⟩; refine ⟨[], ?_, ?_, ?_, ?_, ?_, ?_, ?_⟩ <;> simp [nmF, inB, h1, h2])
end Go.Proofs.YtmhfcgpmmghakaaGreatDoor
namespace Go.Proofs.YtmhfcgpmmghakaaGreatDoor
open Go.AI Go.G
set_option maxRecDepth 20000
set_option maxHeartbeats 4000000
attribute [simp] Tryz.ntmps18 Tryz.results18
theorem qiq (M : G.Mesh) (r : Nat) (B : Int) (hk : M.ns.length = 1) (hM : OkM M B) (hB : B ≤ 230600) (hr : r ≤ 100) : CtJ errG Tryz.prog 18 [.ptr 0 0, int r] [] (B1 M) (.tup []) (B1 (zde M r)) := by
 refine CtJ.B errK Tryz.func18 mixed 9999 400 ?_
 simp
 refine LoopI.inv mixed rfl (ι := {k : Nat // k ≤ r}) (fun k => [(0, .ptr 0 0), (1, int r), (4, int k.1)]) (fun k => B1 (zde M k.1)) 64 (fun k => r - k.1) ⟨0, by omega⟩ [] (by constructor <;> simp [zde]) ?_
 rintro ⟨kk, hk1⟩ B1_ hB
 refine CI.run 9999 400 rfl ?_
 simp
 refine sBI (fun h1 => ?_) (fun h1 => ?_) <;> simp only [h1] <;> simp <;> (try simp only [nT, nF, dT, dF] at h1)
 ·obtain ⟨q1, q2⟩ := zhr hk hM kk
  generalize hN : zde M kk = N at q1 q2 ⊢
  refine LoopI.rounds 2 ?_
  refine RoundsI.step mixed rfl ?_
  refine CI.run 9999 400 rfl ?_
  simp
  refine CI.cc [0,1,2] (zd3 N) Tryz.call12 9999 ?_
  simp
  refine LoopI.rounds 3 ?_
  refine RoundsI.step mixed rfl ?_
  refine CI.run 9999 400 rfl ?_
  simp
  refine CI.cc [0,1,2] (qj4 N) Tryz.call10 9999 ?_
  simp
  refine LoopI.inv mixed rfl (ι := {j : Nat // j ≤ (nth N 0).up.q.length}) (fun k => [(0, .ptr 0 0), (1, int r), (4, int kk), (5, int 0), (6, int 0), (7, .ptr 1216 0), (9, int k.1)]) (fun k => B1 (zcp N 0 k.1) ++ [(1216, .cells ((flkC (nth N 0).up).map .d) 80)]) 1217 (fun k => (nth N 0).up.q.length - k.1) ⟨0, by omega⟩ [] (by constructor <;> simp [zcp]) ?_
  rintro ⟨j, hj⟩ B0 hB0
  have hlen : (nth N 0).up.q.length ≤ 32 := zux q1 q2 0
  refine CI.run 9999 400 rfl ?_
  simp
  refine sBI (fun h2 => ?_) (fun h2 => ?_) <;> simp only [h2] <;> simp <;> (try simp only [nT, nF, dT, dF] at h2)
  ·have hb := zj5 q1 q2 (w := 0) (by omega) j
   have wj : IntKind.wrap .i64 ((j : Int) + 1) = j + 1 := zaa (by omega) (by omega)
   generalize hbk : zcp N 0 j = K at hb ⊢
   refine CI.j [0,1,2] (qbf K (zc1 0) _ hb.1 hb.2 (by omega) rfl rfl (by simp [zc1])) Tryz.call7 9999 ?_ (ha := by simp [zc1, zAsk]) (hk := by simp [zc1, zAsk])
   simp [zc1, zAsk]
   refine hB0 _ ⟨j + 1, by omega⟩ [] ?_ (by simp; omega)
   constructor <;> simp [zcp, hbk, zc1, zAsk, wj]
  ·have e : j = (nth N 0).up.q.length := by omega
   subst e
   have hw0 : (zcp N 0 (nth N 0).up.q.length).ns.length = 1 ∧ OkM (zcp N 0 (nth N 0).up.q.length) (B + 768 * kk + 384) := zj4 q1 q2 (w := 0) (.inl rfl)
   generalize hW : zcp N 0 (nth N 0).up.q.length = W at hw0 ⊢
   obtain ⟨p1, p2⟩ := hw0
   refine RoundsI.step mixed rfl ?_
   refine CI.run 9999 400 rfl ?_
   simp
   refine CI.cc [0,1,2] (qj3 W) Tryz.call10 9999 ?_
   simp
   refine LoopI.inv mixed rfl (ι := {j : Nat // j ≤ (nth W 0).dn.q.length}) (fun k => [(0, .ptr 0 0), (1, int r), (4, int kk), (5, int 0), (6, int 1), (7, .ptr 2305 0), (9, int k.1)]) (fun k => B1 (zcp W 1 k.1) ++ [(2305, .cells ((flkC (nth W 0).dn).map .d) 80)]) 2306 (fun k => (nth W 0).dn.q.length - k.1) ⟨0, by omega⟩ [] (by constructor <;> simp [zcp]) ?_
   rintro ⟨j, hj⟩ B1 hB1
   have hlen : (nth W 0).dn.q.length ≤ 32 := zux p1 p2 1
   refine CI.run 9999 400 rfl ?_
   simp
   refine sBI (fun h2 => ?_) (fun h2 => ?_) <;> simp only [h2] <;> simp <;> (try simp only [nT, nF, dT, dF] at h2)
   ·have hb := zj5 p1 p2 (w := 1) (by omega) j
    have wj : IntKind.wrap .i64 ((j : Int) + 1) = j + 1 := zaa (by omega) (by omega)
    generalize hbk : zcp W 1 j = K at hb ⊢
    refine CI.j [0,1,2] (qbf K (zc1 1) _ hb.1 hb.2 (by omega) rfl rfl (by simp [zc1])) Tryz.call7 9999 ?_ (ha := by simp [zc1, zAsk]) (hk := by simp [zc1, zAsk])
    simp [zc1, zAsk]
    refine hB1 _ ⟨j + 1, by omega⟩ [] ?_ (by simp; omega)
    constructor <;> simp [zcp, hbk, zc1, zAsk, wj]
   ·have e : j = (nth W 0).dn.q.length := by omega
    subst e
    have hw1 : (zcp W 1 (nth W 0).dn.q.length).ns.length = 1 ∧ OkM (zcp W 1 (nth W 0).dn.q.length) (B + 768 * kk + 384 + 384) := zj4 p1 p2 (w := 1) (.inr rfl)
    have hR : zde M (kk + 1) = zcp W 1 (nth W 0).dn.q.length := by
     have e1 : zde M (kk + 1) = znx (znx (zde M kk) 0) 1 := rfl
     have e2 : znx (zde M kk) 0 = W := by rw [hN, ← hW]; rfl
     rw [e1, e2]; rfl
    rw [← hR] at hw1 ⊢
    generalize hV : zde M (kk + 1) = V at hw1 ⊢
    have wk : IntKind.wrap .i64 ((kk : Int) + 1) = kk + 1 := zaa (by omega) (by omega)
    refine RoundsI.step mixed rfl ?_
    refine CI.run 9999 400 rfl ?_
    simp
    refine RoundsI.step mixed rfl ?_
    refine CI.run 9999 400 rfl ?_
    simp
    refine CI.cc [0,1,2] (zd3 V) Tryz.call12 9999 ?_
    simp
    refine hB _ ⟨kk + 1, by omega⟩ [] ?_ (by simp; omega)
    constructor <;> simp [wk, hV]
 ·have e : kk = r := by omega
  subst e
  first | (refine ⟨[], ?_, ?_, ?_, ?_, ?_, ?_, ?_⟩ <;> simp [nmF, inB]; done) | (refine ⟨by decide +kernel, ?_⟩; refine ⟨[], ?_, ?_, ?_, ?_, ?_, ?_, ?_⟩ <;> simp [nmF, inB])
end Go.Proofs.YtmhfcgpmmghakaaGreatDoor
