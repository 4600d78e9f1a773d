/-
  LAYER 20: the walks of how a session and its sidecar meet, and of the law ServerMeets.
-/
import Derived.Test.YtbmnaehodmgibaaGreatDoorWi
import Derived.Test.YtbmnaehodmgibaaGreatDoorWh
import Derived.Test.YtbmnaehodmgibaaGreatDoorPq
set_option linter.unusedSimpArgs false
set_option linter.unusedVariables false
section
namespace Go.Proofs.YtbmnaehodmgibaaGreatDoor
open Go.AI Go.G
set_option maxRecDepth 20000
attribute [simp] Tryz.ntmps30 Tryz.results30
theorem zql (s : Sess) (p : Store) (hs : OkSess s) (hl : s.v.have_.length ≤ 1000000) (hpl : p.hist.length ≤ 1000000) : Ct Tryz.prog 30 [st (zcb s), st (za5 p)] [] [] (bool (zea s p)) [] := by
 refine Ct.B Tryz.func30 mixed 9999 400 ?_
 simp
 refine CW.p (zoj s hs hl) Tryz.call55 9999 ?_
 simp
 have ho := (zqg hs).v.have_
 have hh : zea s p = ((zbh s).greeted && !(zbh s).v.open_ && decide ((zbh s).v.have_ = nowL p)) := rfl
 rw [hh]
 clear hh
 generalize zbh s = q at ho ⊢
 refine CW.p (qdb p hpl) Tryz.call34 9999 ?_
 simp
 refine sG (fun h1 => ?_) (fun h1 => ?_) <;> simp only [h1] <;> simp
 ·refine sG (fun h2 => ?_) (fun h2 => ?_) <;> simp only [h2] <;> simp
  ·refine CW.p (zel q.v.have_ (nowL p) ho) Tryz.call43 9999 ?_ (ha := by simp [nowL])
   simp [nowL]
   first | exact fin0 (by simp [h1, h2]) rfl | exact zaa (by simp [h1, h2])
  ·first | exact fin0 (by simp [h1, h2]) rfl | exact zaa (by simp [h1, h2])
 ·first | exact fin0 (by simp [h1]) rfl | exact zaa (by simp [h1])
abbrev znc (q : Store) (s : Sess) (l : List G.Frame) : Sess := l.foldl (fun s f => (handle s q f).1) s
abbrev qkt : Side := ⟨0, 0, false, ⟨0, 0, 0, 0, 0⟩, ⟨0, 0, 0, 0⟩, ⟨⟨0, []⟩, false, []⟩, ⟨0, []⟩⟩
abbrev zSess : Sess := ⟨0, false, ⟨0, 0, 0, 0, false, false, false, false, 0⟩, ⟨[], [], 0, ⟨0, 0, 0, 0, 0, [], [], 0, [], []⟩, false⟩, 0, 0⟩
abbrev qjp (x : Side) (q : Store) (s : Sess) : List (Nat × Blk) := [(64, .cells ((zd9 x).map .d) 103), (65, .cells ((za5 q).map .d) 54), (66, .cells ((zd9 qkt).map .d) 103), (67, .cells ((zcb zSess).map .d) 50), (68, .cells ((zcb s).map .d) 50)]
abbrev qjo (l : List G.Frame) (k : Nat) : List (Nat × AV) := [(3, .ptr 64 0), (4, .ptr 65 0), (6, .ptr 66 0), (7, .ptr 67 0), (9, .ptr 68 0), (11, lst (l.map zak)), (13, int k)]
set_option maxHeartbeats 2000000 in
attribute [simp] Tryz.ntmps42 Tryz.results42
theorem qe6 (x : Side) (q : Store) (ep : Int) (hx : OkX x) (hq : sanS q = true) (hqo : OkStore q) (hql : q.hist.length ≤ 100000) (hI : ∃ (U : List Key) (c : Nat), U.length ≤ 64 ∧ (∀ r ∈ nowL q, r.key ∈ U) ∧ c ≤ 500 ∧ MI q U c ep (zho x q ep) 0 (zaz x ep).1 (zan ep 1000) (zaz x ep).2.1) : Ct Tryz.prog 42 [st (zd9 x), st (za5 q), int ep] [] [] (.tup [st (zd9 (zho x q ep).1), st (zcb (zho x q ep).2.1), bool (zho x q ep).2.2]) [] := by
 refine Ct.B Tryz.func42 mixed 9999 400 ?_
 simp
 have hnow : AscR (nowL q) ∧ (nowL q).length ≤ 100000 := ⟨zai (zep hq), by have := tab_len (zep hq); omega⟩
 refine CW.p (ziu ep 1000) Tryz.call20 9999 ?_
 simp
 refine CW.p (zso x ep hx) Tryz.call38 9999 ?_
 simp
 obtain ⟨U, c, hU, hW, hc, I0⟩ := hI
 generalize zho x q ep = res at I0 ⊢
 generalize zan ep 1000 = s0 at I0 ⊢
 generalize (zaz x ep).1 = y0 at I0 ⊢
 generalize (zaz x ep).2.1 = l0 at I0 ⊢
 refine LoopW.inv mixed (Plain.retC _ _ _ _ _) rfl (ι := {z : Nat × Side × Sess × List G.Frame // G.MI q U c ep res z.1 z.2.1 z.2.2.1 z.2.2.2}) (fun k => qjo k.1.2.2.2 k.1.1) (fun k => qjp k.1.2.1 q k.1.2.2.1) 69 (fun k => 13 - k.1.1) ⟨(0, y0, s0, l0), I0⟩ [] (by constructor <;> simp) ?_
 rintro ⟨⟨k, x, s, l⟩, I⟩ B hB
 have k13 := I.k13
 simp only at I k13
 have hll := I.ll
 refine CW.run 9999 400 rfl ?_
 simp
 refine sB (fun h => ?_) (fun h => ?_) <;> simp only [h] <;> simp <;> (try simp only [nT, nF, dT, dF] at h)
 ·refine LoopW.U mixed (l) (fun kj => qjo l k ++ [(14, int kj.1)]) (fun kj => qjp x q (znc q s (l.take kj.1))) 69 [] (by constructor <;> simp) ?_
  rintro ⟨kj, hk1j⟩ Bj hBj
  refine CW.run 9999 400 rfl ?_
  simp
  refine sB (fun hj => ?_) (fun hj => ?_)
  ·have hkj : kj < (l).length := by simpa using hj
   obtain ⟨f, hxj, hrj, hmj, htj, hdj⟩ := inL hkj
   have hwj := wr (k := kj) (by omega)
   simp only [hj]
   simp [hrj, hwj]
   have hkp := zfs q (l.take kj) I.ss I.sp
   have S : SaneS (znc q s (l.take kj)) := saneS_iff.1 hkp.1
   refine CW.p (zfp (znc q s (l.take kj)) q f (by have := S.dl; omega) hkp.2 (by have := S.hl; omega) (I.lf f hmj) hqo (by omega)) Tryz.call14 9999 ?_
   simp
   refine ⟨by decide +kernel, ?_⟩
   refine hBj _ ⟨kj + 1, by omega⟩ [] ?_ (by simp; omega)
   constructor <;> simp [hwj, htj, List.foldl_append]
  ·have hklj : kj = (l).length := by simp at hj; omega
   subst hklj
   simp only [hj]
   simp [List.take_length, List.drop_length]
   obtain ⟨r1, r2, r3, r4, r5, r6⟩ := G.MI.round (s' := znc q s l) hq hU hW hc I rfl
   have hwk : IntKind.wrap .i64 ((k : Int) + 1) = k + 1 := zae (by omega) (by omega)
   have hls := (saneS_iff.1 r4).hl
   generalize znc q s l = s' at r3 r4 r5 r6 hls ⊢
   refine CW.p (zve s' q r3 (by omega) (by omega) (fun _ => hnow)) Tryz.call21 9999 ?_
   simp
   rcases r6 with ⟨p1, p2⟩ | ⟨t, f, y, a, p1, p2, p3, I'⟩
   ·simp [p1]
    refine ⟨by decide +kernel, ?_⟩
    first | exact fin0 (by simp [p2]) rfl | exact zaa (by simp [p2])
   ·simp [p1]
    refine CW.p (ztk x f r2 p3) Tryz.call40 9999 ?_
    simp
    refine ⟨by decide +kernel, ?_⟩
    refine hB _ ⟨(k + 1, y, t, [a]), I'⟩ [] ?_ (by simp; omega)
    constructor <;> simp [p2, hwk]
 ·exfalso
  have := (G.MI.round hq hU hW hc I rfl).1
  omega
end Go.Proofs.YtbmnaehodmgibaaGreatDoor
end
section
namespace Go.Proofs.YtbmnaehodmgibaaGreatDoor
open Go.AI Go.G
set_option maxRecDepth 20000
theorem qim : OkSess zSess := ⟨zk4⟩
theorem zz5 : OkX (newX 64 1000) := ⟨⟨by simp [newX, newW, newC], by simp [newX, newW, newC]⟩, by simp [newX, newW, newC], ⟨by simp [newX, newW, newC], by simp [newX, newW, newC]⟩, by simp [newX], by simp [newX], by simp [newX]⟩
set_option maxHeartbeats 4000000 in
attribute [simp] Tryz.ntmps8 Tryz.results8
theorem zom (p : Store) (i : Int) (hp : OkStore p) : CtJ errG Tryz.prog 8 [st (za5 p), int i] [] [] (bool true) [] := by
 refine CtJ.B errK Tryz.func8 mixed 9999 400 ?_
 simp
 refine CI.j [] qbz Tryz.call9 9999 ?_
 simp
 have hz := qbi zSess p qim hp
 rw [show fewV zSess.v = true by decide +kernel, Bool.and_true] at hz
 refine CI.p hz Tryz.call10 9999 ?_ (ha := by simp [zSess])
 simp [zSess]
 refine sGI (fun h1 => ?_) (fun h1 => ?_) <;> simp only [h1] <;> simp
 ·first | exact fin0 (by simp) rfl | exact zaa (by simp)
 have h1' : fewS 10 p = true := by simpa using h1
 have b3 : p.hist.length ≤ 10 := by have := h1'; simp only [fewS, Bool.and_eq_true, decide_eq_true_eq] at this; exact this.2
 have b4 : ∀ l ∈ p.hist, l.length ≤ 1000 := by
  intro l hl
  have := h1'
  simp only [fewS, Bool.and_eq_true, List.all_eq_true] at this
  have := zpm (this.1 l hl)
  omega
 refine CI.p (zoe p) Tryz.call15 9999 ?_
 simp
 refine CI.p (zzs p hp b4) Tryz.call33 9999 ?_
 simp
 refine sBI (fun h3 => ?_) (fun h3 => ?_) <;> simp only [h3] <;> simp
 ·first | exact fin0 (by simp) rfl | exact zaa (by simp)
 have h3' : sanS p = true := by simpa using h3
 refine CI.p (zoe p) Tryz.call15 9999 ?_
 simp
 refine CI.p (at_p p i) Tryz.call41 9999 ?_
 simp
 have hal := qkg h1' i
 have hnl : (zam (zaw p)).length ≤ 64 := tab_len (zep h3')
 have w1 : IntKind.wrap .i64 ((((atS p i).getD []).length : Int) + (zam (zaw p)).length) = ((atS p i).getD []).length + (zam (zaw p)).length := zae (by omega) (by omega)
 have w2 : IntKind.wrap .i64 ((p.hist.length : Int) - 1) = p.hist.length - 1 := zae (by omega) (by omega)
 refine CI.p (qdb p (by omega)) Tryz.call34 9999 ?_ (ha := by simp [w1])
 simp [w1]
 refine sBI (fun h4 => ?_) (fun h4 => ?_) <;> simp only [h4] <;> simp <;> (try simp only [nT, nF, dT, dF] at h4)
 ·first | exact fin0 (by simp) rfl | exact zaa (by simp)
 have h4' : ((atS p i).getD []).length + (nowL p).length ≤ 60 := by
  unfold nowL
  omega
 obtain ⟨l, d1, d2, d3, d4⟩ := qeh h3' i h4'
 have d0 : 0 ≤ max 0 (min i ((p.hist.length : Int) - 1)) := by omega
 have w4 : ∀ b : Int, (if 0 < if b < i then b else i then if b < i then b else i else 0) = max 0 (min i b) := by intro b; split <;> split <;> omega
 simp only [w2, w4]
 generalize max 0 (min i ((p.hist.length : Int) - 1)) = m at d0 d1 d4 ⊢
 obtain ⟨k, rfl⟩ : ∃ k : Nat, m = k := ⟨m.toNat, by omega⟩
 rw [Int.toNat_natCast] at d1
 have w3 : IntKind.wrap .i64 ((k : Int) + 1) = k + 1 := zae (by omega) (by omega)
 simp only [w3, show ((k : Int) + 1).toNat = k + 1 by omega, ← List.map_take]
 refine ⟨by omega, ?_⟩
 refine ⟨by decide +kernel, ?_⟩
 obtain ⟨a, s1, b, s, n, I1, oa, e1, I2, e2, M, e3, e4⟩ := qhd h3' d1 d2
 have hq := zil h3' k
 refine CI.p (zz4 64 1000) Tryz.call39 9999 ?_
 simp
 have hw := qe6 (newX 64 1000) ⟨p.cap, p.hist.take (k + 1)⟩ 1 zz5 hq ⟨by simp; omega, fun l hl => hp.all l (List.mem_of_mem_take hl)⟩ (by simp; omega) I1
 rw [e1] at hw
 refine CI.p hw Tryz.call42 9999 ?_
 simp
 refine ⟨by decide +kernel, ?_⟩
 have hv := qe6 a p 2 oa h3' hp (by omega) I2
 rw [e2] at hv
 refine CI.p hv Tryz.call42 9999 ?_
 simp
 have f1 : OkFrame s.v.push := by have := RunI.ok h3' I2; rw [e2] at this; exact this
 have f2 := M.oks f1
 have f3 := M.tab.1
 have f4 := tab_len f3
 obtain ⟨f5, f6⟩ := M.shown
 have f7 := M.okx
 have g1 := zql s p f2 (by rw [M.sh]; omega) (by omega)
 rw [e4] at g1
 have g2 := zel b.w.c.l (nowL p) f7.c
 rw [show decide (b.w.c.l = nowL p) = true by rw [M.xc]; simp] at g2
 have hP := zve s p f2 (by rw [M.sh]; omega) (by omega) (fun _ => ⟨zai f3, by omega⟩)
 rw [e3] at hP
 refine CI.p g1 Tryz.call30 9999 ?_
 simp
 refine CI.p g2 Tryz.call43 9999 ?_ (ha := by simp [nowL])
 simp [nowL]
 refine CI.p (qf9 b f7) Tryz.call44 9999 ?_ (ha := by simp [f5])
 simp [f5]
 refine CI.p hP Tryz.call21 9999 ?_
 simp
 refine CI.p (zou (nowL p) (zai f3) (by omega)) Tryz.call46 9999 ?_ (ha := by simp [nowL])
 simp [nowL]
 refine CI.p (qih (zal (nowL p)) (zal (nowL p)) (zma (zrc f3) _)) Tryz.call45 9999 ?_ (ha := by simp [nowL])
 simp [nowL]
 refine sGI (fun h5 => ?_) (fun h5 => ?_) <;> simp only [h5] <;> simp
 ·first | exact fin0 (by simp) rfl | exact zaa (by simp)
 ·have f8 : zal (zam (zaw p)) = [] := f6 h5
  first | exact fin0 (by simp [f8]) rfl | exact zaa (by simp [f8])
end Go.Proofs.YtbmnaehodmgibaaGreatDoor
end
