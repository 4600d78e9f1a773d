/-
  LAYER 20: what is sent again, plainly, and the walk of the law ServerAgain.
-/
import Derived.Test.YtbmnaehodmgibaaGreatDoorWh
import Derived.Test.YtbmnaehodmgibaaGreatDoorPq
import Derived.Test.YtbmnaehodmgibaaGreatDoorWj
set_option linter.unusedSimpArgs false
set_option linter.unusedVariables false
section
namespace Go.Proofs.YtbmnaehodmgibaaGreatDoor
open Go.AI Go.G
set_option maxRecDepth 20000
@[simp] theorem lenAll_frame (l : List G.Frame) : zbt (l.map zak) 10 = True := zbj (f := zak) (n := 10) (fun _ => rfl) l
attribute [simp] Tryz.ntmps26 Tryz.results26
theorem qe8 (l : List G.Frame) (hl : l.length ≤ 1000) (hf : ∀ f ∈ l, f.have_.length ≤ 1000000) : Ct Tryz.prog 26 [lst (l.map zak)] [] [] (lst (l.map zak)) [] := by
 refine Ct.B Tryz.func26 mixed 9999 400 ?_
 simp
 refine LoopW.nilOwn 3 10 31 rfl ?_
 refine LoopW.U mixed (l) (fun k => [(0, lst (l.map zak)), (3, .own 64), (4, int k.1)]) (fun k => [(64, .grow 10 ((l.take k.1).map zak) 31)]) 65 [] (by constructor <;> simp) ?_
 rintro ⟨k, hk1⟩ B hB
 refine CW.run 9999 400 rfl ?_
 simp
 refine sB (fun h => ?_) (fun h => ?_)
 ·have hk : k < (l).length := by simpa using h
  obtain ⟨x, hx, hr, hm, ht, hd⟩ := inL hk
  have hw := wr (k := k) (by omega)
  simp only [h]
  simp [hr, hw]
  refine CW.p (zzt x (hf x hm)) Tryz.call82 9999 ?_
  simp
  refine ⟨by omega, ?_⟩
  refine hB _ ⟨k + 1, by omega⟩ [] ?_ (by simp; omega)
  constructor <;> simp [hw, ht]
 ·have hkl : k = (l).length := by simp at h; omega
  subst hkl
  simp only [h]
  simp [List.take_length, List.drop_length]
  first | exact fin0 (by simp) rfl | exact zaa (by simp)
attribute [simp] Tryz.ntmps25 Tryz.results25
theorem qd5 (a b : List G.Frame) (hl : a.length ≤ 1000) (hf : ∀ f ∈ a, OkFrame f) : Ct Tryz.prog 25 [lst (a.map zak), lst (b.map zak)] [] [] (bool (decide (a = b))) [] := by
 refine Ct.B Tryz.func25 mixed 9999 400 ?_
 simp
 refine sB (fun h1 => ?_) (fun h1 => ?_) <;> simp only [h1] <;> simp <;> (try simp only [nT, nF, dT, dF] at h1)
 ·have e : ¬ a = b := fun e => h1 (by rw [e])
  first | exact fin0 (by simp [e]) rfl | exact zaa (by simp [e])
 have hab : a.length = b.length := by omega
 refine LoopW.inv mixed (Plain.retC _ _ _ _ _) rfl (ι := {k : Nat // k ≤ (a).length ∧ a.take k = b.take k}) (fun k => [(0, lst (a.map zak)), (1, lst (b.map zak)), (5, int k.1)]) (fun k => []) 64 (fun k => (a).length - k.1) ⟨0, by omega, by simp⟩ [] (by constructor <;> simp) ?_
 rintro ⟨k, hk1, hi⟩ B hB
 refine CW.run 9999 400 rfl ?_
 simp
 refine sB (fun h => ?_) (fun h => ?_)
 ·have hk : k < (a).length := by simpa using h
  obtain ⟨x, hx, hr, hm, ht, hd⟩ := inL hk
  have hw := wr (k := k) (by omega)
  simp only [h]
  simp [hr, hw]
  have hrb : b[k]? = some b[k] := List.getElem?_eq_getElem (by omega)
  have htb : b.take (k + 1) = b.take k ++ [b[k]] := by rw [List.take_add_one, hrb]; rfl
  have hne : x ≠ b[k] → a ≠ b := by
   intro h2 e; subst e; rw [hr] at hrb; cases hrb; exact h2 rfl
  generalize b[k] = y at hrb htb hne
  simp [hrb]
  refine CW.p (zzi x y (hf x hm)) Tryz.call59 9999 ?_
  simp
  refine ⟨by decide +kernel, ?_⟩
  refine sB (fun h2 => ?_) (fun h2 => ?_) <;> simp only [h2] <;> simp <;> (try simp only [nT, nF, dT, dF] at h2)
  ·first | exact fin0 (by simp [hne h2]) rfl | exact zaa (by simp [hne h2])
  ·refine hB _ ⟨k + 1, by omega, by rw [ht, htb, hi, h2]⟩ [] ?_ (by simp; omega)
   constructor <;> simp [hw]
 ·have hkl : k = (a).length := by simp at h; omega
  subst hkl
  simp only [h]
  simp [List.take_length, List.drop_length]
  have e : a = b := by
   rw [List.take_length, hab, List.take_length] at hi; exact hi
  first | exact fin0 (by simp [e]) rfl | exact zaa (by simp [e])
end Go.Proofs.YtbmnaehodmgibaaGreatDoor
end
section
namespace Go.G
open Go.AI
structure AgI (q : Store) (U : List Key) (i : Nat) (x : Side) (s : Sess) : Prop where
 i7 : i ≤ 7
 sp : OkFrame s.v.push
 mt : ∃ H n, Mt x s H 1 n ∧ (∀ r ∈ H, r.key ∈ U) ∧ (∀ j, j < i → Qp H (nowL q) j) ∧ n ≤ 1 + i
structure Twice (q : Store) (U : List Key) (i : Nat) (x : Side) (s t : Sess) (f : Frame) (y : Side) (a : Frame) (z : Side) (b : Frame) (u v : Sess) : Prop where
 pump : pump s q = (t, [f], 0)
 re : zd3 t = [f]
 ts : zba t = true
 ot : OkSess t
 tp : OkFrame t.v.push
 fo : OkFrame f
 fl : f.have_.length ≤ 1000
 one : zgu x f = (y, [a], 0)
 oy : OkX y
 two : zgu y f = (z, [b], 9)
 ao : OkFrame a
 bo : OkFrame b
 hu : handle t q a = (u, 0)
 hv : handle t q b = (v, 0)
 late : (handle u q b).2 = 11
 same : ({ v with v := { v.v with turn := u.v.turn } } : Sess) = u
 us : zba u = true
 ou : OkSess u
 up : OkFrame u.v.push
 upl : u.v.push.have_.length ≤ 1000
 next : i < 7 → AgI q U (i + 1) z v
theorem AgI.round {q : Store} (hq : sanS q = true) {U : List Key} (hU : U.length ≤ 64) (hW : ∀ r ∈ nowL q, r.key ∈ U) {i : Nat} {x : Side} {s : Sess} (I : AgI q U i x s) :
  OkX x ∧ OkSess s ∧ zba s = true ∧ ((pump s q = (s, [], 0) ∧ zea s q = true ∧ zd3 s = []) ∨ ∃ t f y a z b u v, Twice q U i x s t f y a z b u v) := by
 obtain ⟨H, n, M, hH, hj, hn⟩ := I.mt
 have i7 := I.i7
 refine ⟨M.okx, M.oks I.sp, M.ss, ?_⟩
 cases hx : zeq H (nowL q) s.v.held with
 | none =>
   obtain ⟨h1, h2, h3, _⟩ := zt4 M hq hx
   refine .inl ⟨h1, h3, ?_⟩
   unfold zd3
   rw [zbk M.ss, M.op]
   rfl
 | some st =>
   have hA : Acc q.cap (nowL q) := by unfold nowL; rw [zb3 hq]; exact zim hq
   obtain ⟨p1, p2, p3, p4⟩ := zl7 (M.pl hA) hU hH hW hx
   obtain ⟨t, f, T⟩ := zt3 M hq (by omega) hx p1 p2
   obtain ⟨y, a, z, b, v, u, k1, k2, k3, k4, k5, k6, k7, k8⟩ := T.go
   obtain ⟨h5, h6⟩ := p4 i hj
   have hf := zfj T.fs
   have htp : OkFrame t.v.push := by rw [T.push]; exact hf
   have hup : OkFrame u.v.push := by have := zjs q a T.ts htp; rwa [k3] at this
   have hvp : OkFrame v.v.push := by have := zjs q b T.ts htp; rwa [k4] at this
   have htl := (saneS_iff.1 T.ts).dl
   have hul : u.v.push.have_.length ≤ 1000 := by
    have L := zcp (frameE_zero.1 T.fs).small
    have h0 := zmm q a T.ts
    rw [k3] at h0
    rcases h0 with e | e
    ·simp only at e; rw [e, T.push]; omega
    ·simp only at e; rw [e]; simp [zFrame]
   refine .inr ⟨t, f, y, a, z, b, u, v, T.pump, ?_, T.ts, ?_, htp, hf, by have L := zcp (frameE_zero.1 T.fs).small; omega, k1, k7.okx, k2, zfj (zj1 (by rw [k3])), zfj (zj1 (by rw [k4])), k3, k4, k5, k6, k7.ss, k7.oks hup, hup, by omega, fun hi => ⟨by omega, hvp, _, n + 1, k8, p3, h6, by omega⟩⟩
   ·unfold zd3
    rw [zbk T.ts, T.op, if_pos rfl, T.push]
   ·have hh : t.v.have_ = s.v.have_ := by
     rcases zxd M.ss q with ⟨d1, d2⟩ | ⟨x', d1, d2, d3, d4, d5⟩
     ·rw [T.pump] at d2; simp at d2
     ·rw [T.pump] at d5
      have := congrArg (fun z => z.1.v.have_) d5
      exact this
    exact ⟨⟨by rw [hh, M.sh]; exact zrc M.tab.1, by omega, htp⟩⟩
theorem zuu {q : Store} (hq : sanS q = true) : ∃ y l, zaz (newX 64 1000) 1 = (y, l, 0) ∧ l.length ≤ 2 ∧ (∀ f ∈ l, OkFrame f) ∧ AgI q ((nowL q).map Res.key) 0 y (l.foldl (fun s f => (handle s q f).1) (zan 1 1000)) := by
 have hF := zhx (x := newX 64 1000) (ep := 1) (zfh _ _) (by simp [newX, newW, newC])
 obtain ⟨y, a, b, s, h1, h2, M⟩ := zjv (x := newX 64 1000) (q := q) (H := []) (ep := 1) (n := 1) (zfh _ _) rfl (by simp [newX]) rfl (by omega) (by simp [newX]) (by simp [newX]) (by simp [newX]) (by omega) rfl
 rw [h1] at hF
 refine ⟨y, [a, b], h1, by simp, hF, by omega, (zfs q [a, b] (zcy _ _) zgp).2, [], 1, by rw [h2]; exact M, by simp, fun j h => absurd h (Nat.not_lt_zero j), by omega⟩
end Go.G
namespace Go.G
open Go.AI
theorem and7 (n : Int) : andK .i64 n 7 ≤ 7 := by
 have h : (BitVec.ofInt 64 n &&& BitVec.ofInt 64 7).toNat ≤ 7 := by
  rw [BitVec.toNat_and]
  exact Nat.and_le_right
 show IntKind.wrap .i64 ((BitVec.ofInt 64 n &&& BitVec.ofInt 64 7).toNat : Int) ≤ 7
 rw [zae (by omega) (by omega)]
 omega
end Go.G
end
section
namespace Go.Proofs.YtbmnaehodmgibaaGreatDoor
open Go.AI Go.G
set_option maxRecDepth 20000
set_option maxHeartbeats 4000000
abbrev qfl (n : Int) : List (Nat × AV) := [(1, int n), (5, bool true), (6, .ptr 64 0), (7, .ptr 65 0), (8, .ptr 66 0)]
abbrev qfm (q : Store) (s : Sess) (x : Side) : List (Nat × Blk) := [(64, .cells ((za5 q).map .d) 54), (65, .cells ((zcb s).map .d) 50), (66, .cells ((zd9 x).map .d) 103)]
attribute [simp] Tryz.ntmps7 Tryz.results7
theorem zon (p : Store) (n : Int) (hp : OkStore p) : CtJ errG Tryz.prog 7 [st (za5 p), int n] [] [] (bool true) [] := by
 refine CtJ.B errK Tryz.func7 mixed 9999 400 ?_
 simp
 refine CI.j [] qbz Tryz.call9 9999 ?_
 simp
 have hz := qbi zSess p qim hp
 rw [show fewV zSess.v = true by decide +kernel, Bool.and_true] at hz
 refine CI.p hz Tryz.call10 9999 ?_ (ha := by simp [zSess])
 simp [zSess]
 refine sGI (fun h1 => ?_) (fun h1 => ?_) <;> simp only [h1] <;> simp
 ·first | exact fin0 (by simp) rfl | exact zaa (by simp)
 have h1' : fewS 10 p = true := by simpa using h1
 have b3 : p.hist.length ≤ 10 := by have := h1'; simp only [fewS, Bool.and_eq_true, decide_eq_true_eq] at this; exact this.2
 have b4 : ∀ l ∈ p.hist, l.length ≤ 1000 := by
  intro l hl
  have := h1'
  simp only [fewS, Bool.and_eq_true, List.all_eq_true] at this
  have := zpm (this.1 l hl)
  omega
 refine CI.p (zoe p) Tryz.call15 9999 ?_
 simp
 refine CI.p (zzs p hp b4) Tryz.call33 9999 ?_
 simp
 refine sBI (fun h3 => ?_) (fun h3 => ?_) <;> simp only [h3] <;> simp
 ·first | exact fin0 (by simp) rfl | exact zaa (by simp)
 have h3' : sanS p = true := by simpa using h3
 have hnow : AscR (nowL p) ∧ (nowL p).length ≤ 100000 := ⟨zai (zep h3'), by have := tab_len (zep h3'); omega⟩
 have hU : ((nowL p).map Res.key).length ≤ 64 := by have := tab_len (zep h3'); simpa using this
 have hW : ∀ r ∈ nowL p, r.key ∈ (nowL p).map Res.key := fun r hr => List.mem_map.2 ⟨r, hr, rfl⟩
 obtain ⟨y0, l, q1, q2, q3, I0⟩ := zuu h3'
 refine CI.p (zoe p) Tryz.call15 9999 ?_
 simp
 refine CI.p (ziu 1 1000) Tryz.call20 9999 ?_
 simp
 refine CI.p (zz4 64 1000) Tryz.call39 9999 ?_
 simp
 have hC := zso (newX 64 1000) 1 zz5
 rw [q1] at hC
 refine CI.p hC Tryz.call38 9999 ?_
 simp
 have ss0 := zcy 1 1000
 have sp0 : OkFrame (zan 1 1000).v.push := zgp
 generalize zan 1 1000 = s0 at I0 ss0 sp0 ⊢
 clear hC q1
 refine LoopI.U mixed (l) (fun k => qfl n ++ [(9, lst (l.map zak)), (11, int k.1)]) (fun k => qfm p (znc p s0 (l.take k.1)) y0) 67 [] (by constructor <;> simp) ?_
 rintro ⟨k, hk1⟩ B hB
 refine CI.run 9999 400 rfl ?_
 simp
 refine sBI (fun h => ?_) (fun h => ?_)
 ·have hk : k < (l).length := by simpa using h
  obtain ⟨f, hx, hr, hm, ht, hd⟩ := inL hk
  have hw := wr (k := k) (by omega)
  simp only [h]
  simp [hr, hw]
  have hkp := zfs p (l.take k) ss0 sp0
  have S : SaneS (znc p s0 (l.take k)) := saneS_iff.1 hkp.1
  refine CI.p (zfp (znc p s0 (l.take k)) p f (by have := S.dl; omega) hkp.2 (by have := S.hl; omega) (q3 f hm) hp (by omega)) Tryz.call14 9999 ?_
  simp
  refine ⟨by decide +kernel, ?_⟩
  refine hB _ ⟨k + 1, by omega⟩ [] ?_ (by simp; omega)
  constructor <;> simp [hw, ht, List.foldl_append]
 ·have hkl : k = (l).length := by simp at h; omega
  subst hkl
  simp only [h]
  simp [List.take_length, List.drop_length]
  change AgI p _ 0 y0 (znc p s0 l) at I0
  generalize znc p s0 l = s at I0 ⊢
  generalize hUe : (nowL p).map Res.key = U at I0 hU hW
  refine LoopI.inv mixed rfl (ι := {z : Nat × Side × Sess // G.AgI p U z.1 z.2.1 z.2.2}) (fun k => qfl n ++ [(14, int k.1.1)]) (fun k => qfm p k.1.2.2 k.1.2.1) 67 (fun k => 7 - k.1.1) ⟨(0, y0, s), I0⟩ [] (by constructor <;> simp) ?_
  rintro ⟨⟨k, x, s⟩, I⟩ B hB
  have i7 := I.i7
  simp only at I i7
  refine CI.run 9999 400 rfl ?_
  simp
  have a7 := and7 n
  obtain ⟨r1, r2, r3, r4⟩ := I.round h3' hU hW
  have hls := (saneS_iff.1 r3).hl
  refine sBI (fun h => ?_) (fun h => ?_) <;> simp only [h] <;> simp <;> (try simp only [nT, nF, dT, dF] at h)
  ·have hP := zve s p r2 (by omega) (by omega) (fun _ => hnow)
   rcases r4 with ⟨p1, p2, p3⟩ | ⟨t, f, y, a, z, b, u, v, T⟩
   ·rw [p1] at hP
    have hS := zql s p r2 (by omega) (by omega)
    rw [p2] at hS
    have hR := zos s r2 (by omega)
    rw [p3] at hR
    refine CI.p hP Tryz.call21 9999 ?_
    simp
    refine CI.p hS Tryz.call30 9999 ?_
    simp
    refine CI.p hR Tryz.call28 9999 ?_
    simp
    first | exact fin0 (by simp) rfl | exact zaa (by simp)
   ·rw [T.pump] at hP
    have Ts := saneS_iff.1 T.ts
    have Us := saneS_iff.1 T.us
    have t1 := Ts.hl
    have t2 := Ts.dl
    have u1 := Us.hl
    have u2 := Us.dl
    have hR := zos t T.ot (by omega)
    rw [T.re] at hR
    have hX := ztk x f r1 T.fo
    rw [T.one] at hX
    have hY := ztk y f T.oy T.fo
    rw [T.two] at hY
    have hA := zfp t p a (by omega) T.tp (by omega) T.ao hp (by omega)
    rw [T.hu] at hA
    have hG := zfp t p b (by omega) T.tp (by omega) T.bo hp (by omega)
    rw [T.hv] at hG
    have hD := zfp u p b (by omega) T.up (by omega) T.bo hp (by omega)
    rcases hq : handle u p b with ⟨w, e⟩
    rw [hq] at hD
    have e11 : e = 11 := by have := T.late; rw [hq] at this; exact this
    subst e11
    have hm0 : ∀ g ∈ [f], g.have_.length ≤ 1000000 := by intro g hg; rw [List.mem_singleton.1 hg]; have := T.fl; omega
    have hm1 : ∀ g ∈ [f], OkFrame g := by intro g hg; rw [List.mem_singleton.1 hg]; exact T.fo
    refine CI.p hP Tryz.call21 9999 ?_
    simp
    refine CI.p hR Tryz.call28 9999 ?_
    simp
    refine CI.p (qe8 [f] (by simp) hm0) Tryz.call26 9999 ?_
    simp
    refine CI.p (qe8 [f] (by simp) hm0) Tryz.call26 9999 ?_
    simp
    refine CI.p (qd5 [f] [f] (by simp) hm1) Tryz.call25 9999 ?_
    simp
    refine CI.p hX Tryz.call40 9999 ?_
    simp
    refine ⟨by decide +kernel, ?_⟩
    refine CI.p hY Tryz.call40 9999 ?_
    simp
    refine ⟨by decide +kernel, ?_⟩
    have hv : ∃ tv, v = { u with v := { u.v with turn := tv } } := ⟨v.v.turn, by
     have := T.same
     rw [← this]⟩
    have nx := T.next
    have ou := T.ou
    have upl := T.upl
    clear T Ts Us hq hP hR hX hY
    obtain ⟨tv, rfl⟩ := hv
    refine CI.p hA Tryz.call14 9999 ?_
    simp
    refine ⟨by decide +kernel, ?_⟩
    refine CI.p hG Tryz.call14 9999 ?_
    simp
    refine ⟨by decide +kernel, ?_⟩
    refine CI.p hD Tryz.call14 9999 ?_
    simp
    refine ⟨by decide +kernel, ?_⟩
    refine CI.p (qfd u (by omega)) Tryz.call18 9999 ?_
    simp
    refine CI.p (qfd u (by omega)) Tryz.call18 9999 ?_
    simp
    refine CI.p (qgk u u ou) Tryz.call17 9999 ?_
    simp
    refine ⟨by decide +kernel, ?_⟩
    have k7 : k < 7 := by omega
    have hwk : IntKind.wrap .i64 ((k : Int) + 1) = k + 1 := zae (by omega) (by omega)
    refine hB _ ⟨(k + 1, z, { u with v := { u.v with turn := tv } }), nx k7⟩ [] ?_ (by simp; omega)
    constructor <;> simp [hwk]
  ·have hE := zzc s r2 (by omega)
   rw [r3] at hE
   refine CI.p hE Tryz.call12 9999 ?_
   simp
   first | exact fin0 (by simp) rfl | exact zaa (by simp)
end Go.Proofs.YtbmnaehodmgibaaGreatDoor
end
