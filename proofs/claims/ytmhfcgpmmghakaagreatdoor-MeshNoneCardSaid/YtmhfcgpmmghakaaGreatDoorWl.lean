/-
  LAYERS 18 to 23: the walks of picking, of pins by their places, of requests, of their pool.
-/
import Derived.Test.YtmhfcgpmmghakaaGreatDoorWk
import Derived.Test.YtmhfcgpmmghakaaGreatDoorPq
import Derived.Test.YtmhfcgpmmghakaaGreatDoorWb
import Derived.Test.YtmhfcgpmmghakaaGreatDoorFd
import Derived.Shelf.Lays2
import Derived.Shelf.RegionOpenPlain
import Derived.WalkKit
import Derived.Deep.LoopGhost
import Derived.Deep.RegionLaw
import Derived.Lib.Walk
import Derived.Sort.WalkB12
import Derived.Sort.EncStr
import Derived.Lib.SliceRun
import Derived.Lib.SlicesDelete
import Derived.Test.YtmhfcgpmmghakaaGreatDoorWi
set_option linter.unusedSimpArgs false
set_option linter.unusedVariables false
namespace Go.Proofs.YtmhfcgpmmghakaaGreatDoor
open Go.AI Go.G Tryz
set_option maxRecDepth 20000
attribute [simp] ntmps383 results383 ntmps350 results350 ntmps384 results384 ntmps351 results351 ntmps296 results296 ntmps297 results297 ntmps385 results385 ntmps353 results353 ntmps298 results298
theorem qr2 (s p : Str) : Ct prog 382 [str s, str p] [] [] (bool (pfx s p)) [] := znk s p
theorem ql5 (s p : Str) : Ct prog 349 [str s, str p] [] [] (bool (pfx s p)) [] := zpb s p
theorem qe5 (s p : Str) : Ct prog 383 [str s, str p] [] [] (.tup [str (cutS s p), bool (pfx s p)]) [] := by
 refine Ct.B func383 mixed 99 400 ?_
 simp
 have hs := zay s
 have hp := zay p
 refine CI.p (qr2 s p) call382 99 ?_
 simp
 unfold cutS
 cases h1 : pfx s p with
 | false =>
   simp [h1]
   exact fin0 (by simp) rfl
 | true =>
   have h1' : (bs p).length ≤ (bs s).length := by
    simp only [pfx, Bool.and_eq_true, decide_eq_true_eq] at h1; exact h1.1
   simp [h1, hs, hp]
   refine ⟨by omega, ?_⟩
   exact fin0 (by simp) rfl
theorem zpi (s p : Str) : Ct prog 350 [str s, str p] [] [] (.tup [str (cutS s p), bool (pfx s p)]) [] := by
 refine Ct.B func350 mixed 99 400 ?_
 simp
 refine CI.p (qe5 s p) call383 99 ?_
 simp
 exact fin0 (by simp) rfl
theorem qei (s p : Str) (hl : (bs s).length ≤ 1000000) : Ct prog 384 [str s, str p] [] [] (bool (sfx s p)) [] := by
 refine Ct.B func384 mixed 99 400 ?_
 simp
 have hs := zay s
 have hp := zay p
 unfold sfx
 simp [hs, hp]
 have e : decide (s.extract ((bs s).length - (bs p).length) (bs s).length = p) = decide ((bs s).drop ((bs s).length - (bs p).length) = bs p) := decide_eq_decide.2 (by rw [zwt, zv6])
 refine sGI (fun h1 => ?_) (fun h1 => ?_) <;> simp only [h1] <;> simp [hs, hp]
 ·have h1' := of_decide_eq_true h1
  have w1 : IntKind.wrap .i64 (((bs s).length : Int) - (bs p).length) = ((bs s).length - (bs p).length : Nat) := by rw [zaa (by omega) (by omega)]; omega
  simp [w1]
  rw [← e]
  exact fin0 (by simp [h1]) rfl
 ·exact fin0 (by simp [h1]) rfl
theorem zpa (s p : Str) (hl : (bs s).length ≤ 1000000) : Ct prog 351 [str s, str p] [] [] (bool (sfx s p)) [] := by
 refine Ct.B func351 mixed 99 400 ?_
 simp
 refine CI.p (qei s p hl) call384 99 ?_
 simp
 exact fin0 (by simp) rfl
theorem qdu (p h : Str) (hp : (bs p).length ≤ 1000000) (hh : (bs h).length ≤ 1000000) : Ct prog 296 [str p, str h] [] [] (bool (zlc p h)) [] := by
 refine Ct.B func296 mixed 99 400 ?_
 simp
 have hs := zay h
 have hq := zay (cutS p ⟨#[42]⟩)
 unfold zlc
 refine CI.p (qee p) call348 99 ?_
 simp
 cases h1 : zni p with
 | false =>
   simp [h1]
   exact fin0 (by simp) rfl
 | true =>
   simp [h1]
   refine CI.p (qee h) call348 99 ?_
   simp
   cases h2 : zni h with
   | false =>
     simp [h2]
     exact fin0 (by simp) rfl
   | true =>
     simp [h2]
     refine CI.p (ql5 h ⟨#[42]⟩) call349 99 ?_
     simp
     cases h3 : pfx h ⟨#[42]⟩ with
     | true =>
       simp [h3]
       exact fin0 (by simp) rfl
     | false =>
       simp [h3]
       by_cases h4 : p = ⟨#[42]⟩
       ·simp [h4]
        exact fin0 (by simp) rfl
       ·by_cases h5 : p = h
        ·subst h5
         simp [h4]
         exact fin0 (by simp) rfl
        ·simp [h4, h5]
         refine CI.p (zpi p ⟨#[42]⟩) call350 99 ?_
         simp
         cases h6 : pfx p ⟨#[42]⟩ with
         | false =>
           simp [h6]
           exact fin0 (by simp [h6]) rfl
         | true =>
           simp [h6]
           by_cases h7 : (bs (cutS p ⟨#[42]⟩)).length < (bs h).length
           ·simp [h7, hs, hq]
            refine CI.p (zpa h (cutS p ⟨#[42]⟩) hh) call351 99 ?_
            simp
            exact fin0 (by simp [h6, h7]) rfl
           ·simp [h7, hs, hq]
            exact fin0 (by simp [h6, h7]) rfl
theorem qj8 (p s : Str) (hp : (bs p).length ≤ 1000000) (hh : (bs s).length ≤ 1000000) : Ct prog 297 [str p, str s] [] [] (bool (zmf p s)) [] := by
 refine Ct.B func297 mixed 99 400 ?_
 simp
 unfold zmf
 refine CI.p (zpi s p) call350 99 ?_
 simp
 cases h1 : pfx s p with
 | false =>
   simp [h1]
   exact fin0 (by simp) rfl
 | true =>
   simp [h1]
   refine CI.p (qc0 p) call352 99 ?_
   simp
   cases h2 : zln p with
   | false =>
     simp [h2]
     exact fin0 (by simp) rfl
   | true =>
     simp [h2]
     refine CI.p (qc0 s) call352 99 ?_
     simp
     cases h3 : zln s with
     | false =>
       simp [h3]
       exact fin0 (by simp) rfl
     | true =>
       simp [h3]
       by_cases h4 : cutS s p = ⟨#[]⟩
       ·simp [h4]
        exact fin0 (by simp [h4]) rfl
       ·simp [h4]
        refine CI.p (zpa p ⟨#[47]⟩ hp) call351 99 ?_
        simp
        cases h5 : sfx p ⟨#[47]⟩ with
        | true =>
          simp [h5]
          exact fin0 (by simp [h4, h5]) rfl
        | false =>
          simp [h5]
          refine CI.p (ql5 (cutS s p) ⟨#[47]⟩) call349 99 ?_
          simp
          exact fin0 (by simp [h4, h5]) rfl
theorem qa3 (s : Str) : Ct prog 385 [str s] [] [] (int (zoj s)) [] := by
 refine Ct.B func385 mixed 99 400 ?_
 simp
 have hs := zay s
 unfold zoj
 by_cases h1 : s = ⟨#[42]⟩
 ·simp [h1]
  exact fin0 (by simp) rfl
 ·simp [h1]
  refine CI.p (ql5 s ⟨#[42, 46]⟩) call349 99 ?_
  simp
  cases h2 : pfx s ⟨#[42, 46]⟩ with
  | true =>
    simp [h2]
    exact fin0 (by simp [hs]) rfl
  | false =>
    simp [h2]
    exact fin0 (by simp) rfl
theorem qhc (a b : Str) : Ct prog 353 [str a, str b] [] [] (int (zkk a b)) [] := by
 refine Ct.B func353 mixed 99 400 ?_
 simp
 refine CI.p (qa3 a) call385 99 ?_
 simp
 refine CI.p (qa3 b) call385 99 ?_
 simp
 refine CI.p (zt9 (zoj a) (zoj b)) call304 99 ?_
 simp
 exact fin0 (by simp [zkk, cmpI]) rfl
theorem qn7 (a b : Rule) : Ct prog 298 [st (zaz a), st (zaz b)] [] [] (bool (zyg a b)) [] := by
 refine Ct.B func298 mixed 99 400 ?_
 simp
 have hs := zay a.pre
 have hq := zay b.pre
 unfold zyg
 refine CI.p (qhc a.host b.host) call353 99 ?_
 simp
 by_cases h1 : 0 < zkk a.host b.host
 ·simp [h1]
  exact fin0 (by simp) rfl
 ·by_cases h2 : zkk a.host b.host < 0
  ·simp [h1, h2]
   exact fin0 (by simp) rfl
  ·simp [h1, h2]
   exact fin0 (by simp [hs, hq]) rfl
end Go.Proofs.YtmhfcgpmmghakaaGreatDoor
namespace Go.Proofs.YtmhfcgpmmghakaaGreatDoor
open Go.AI Go.G Tryz
set_option maxRecDepth 20000
attribute [simp] ntmps294 results294 ntmps295 results295 ntmps226 results226 ntmps300 results300 ntmps299 results299 ntmps227 results227 ntmps228 results228
theorem qrb (l : List Rule) (kf : D) (may : Rule → Bool) (hf : ∀ x ∈ l, FnOk prog (.d kf) [st (zaz x)] (bool (may x))) (hl : l.length ≤ 1000000) : Ct prog 294 [lst (l.map zaz), .d kf, .d (fnD 298)] [] [] (.tup [st (zaz (l.foldl (za0 may) (zRule, false)).1), bool (l.foldl (za0 may) (zRule, false)).2]) [] := by
 refine Ct.B func294 mixed 99 400 ?_
 simp
 refine LoopI.U mixed (l) (fun k => [(1, .d kf), (2, .d (fnD 298)), (6, .ptr 65 0), (8, .ptr 64 0), (9, bool ((l.take k.1).foldl (za0 may) (zRule, false)).2), (12, lst (l.map zaz)), (13, int l.length), (14, int k.1)]) (fun k => [(64, .cells [str ((l.take k.1).foldl (za0 may) (zRule, false)).1.host, str ((l.take k.1).foldl (za0 may) (zRule, false)).1.pre, lst (((l.take k.1).foldl (za0 may) (zRule, false)).1.split.map wC)] 114), (65, .cells [str ⟨#[]⟩, str ⟨#[]⟩, lst []] 114)]) 66 [] (by constructor <;> simp) ?_
 rintro ⟨k, hk1⟩ B hB
 refine CI.run 99 400 rfl ?_
 simp
 refine sBI (fun h => ?_) (fun h => ?_)
 ·have hk : k < (l).length := by simpa using h
  obtain ⟨r, hx, hr, hm, ht, hd⟩ := inL hk
  have hw := wr (k := k) (by omega)
  simp only [h]
  simp [hr, hw]
  generalize hz : (l.take k).foldl (za0 may) (zRule, false) = z
  refine CI.ff (hf r hm) rfl rfl rfl 99 ?_
  simp
  cases h1 : may r with
  | false =>
    have e : za0 may z r = z := by simp [za0, h1]
    simp [h1]
    refine hB _ ⟨k + 1, by omega⟩ [] ?_ (by simp; omega)
    constructor <;> simp [hw, ht, hz, e]
  | true =>
    simp [h1]
    cases h2 : z.2 with
    | false =>
      have e : za0 may z r = (r, true) := by simp [za0, h1, h2]
      simp [h2]
      refine hB _ ⟨k + 1, by omega⟩ [] ?_ (by simp; omega)
      constructor <;> simp [hw, ht, hz, e]
    | true =>
      simp [h2]
      refine CI.ff (FnOk.of (qn7 r z.1) call298 rfl rfl) rfl rfl rfl 99 ?_
      simp
      cases h3 : zyg r z.1 with
      | true =>
        have e : za0 may z r = (r, true) := by simp [za0, h1, h3]
        simp [h3]
        refine hB _ ⟨k + 1, by omega⟩ [] ?_ (by simp; omega)
        constructor <;> simp [hw, ht, hz, e]
      | false =>
        have e : za0 may z r = z := by simp [za0, h1, h2, h3]
        simp [h3]
        refine hB _ ⟨k + 1, by omega⟩ [] ?_ (by simp; omega)
        constructor <;> simp [hw, ht, hz, e, h2]
 ·have hkl : k = (l).length := by simp at h; omega
  subst hkl
  simp only [h]
  simp [List.take_length, List.drop_length]
  exact fin0 (by simp) rfl
theorem qlo (r : Rule) (h s : Str) (hh : (bs h).length ≤ 1000000) (hs : (bs s).length ≤ 1000000) (hr : (bs r.host).length ≤ 1000000) (hp : (bs r.pre).length ≤ 1000000) : Ct prog 295 [st (zaz r), .d (.pro [sD h]), .d (.pro [sD s])] [] [] (bool (zlc r.host h && zmf r.pre s)) [] := by
 refine Ct.B func295 mixed 99 400 ?_
 simp
 refine CI.p (qdu r.host h hr hh) call296 99 ?_
 simp
 cases h1 : zlc r.host h with
 | false =>
   simp [h1]
   exact fin0 (by simp) rfl
 | true =>
   simp [h1]
   refine CI.p (qj8 r.pre s hp hs) call297 99 ?_
   simp
   exact fin0 (by simp) rfl
theorem qlt (l : List Rule) (h s : Str) (hh : (bs h).length ≤ 1000000) (hs : (bs s).length ≤ 1000000) (hr : ∀ r ∈ l, (bs r.host).length ≤ 1000000 ∧ (bs r.pre).length ≤ 1000000) (hl : l.length ≤ 1000000) : Ct prog 226 [lst (l.map zaz), str h, str s] [] [] (.tup [st (zaz (zp6 l h s).1), bool (zp6 l h s).2]) [] := by
 refine Ct.B func226 mixed 1 400 ?_
 simp
 refine CI.s (tm := [(0, lst (l.map zaz)), (4, .d (.pro [sD h])), (5, .d (.pro [sD s])), (6, .ptr 192 0)]) (mm := [(192, .cells [str ⟨#[]⟩, str ⟨#[]⟩, lst []] 114)]) (nx := 193) [] [64, 128] (by constructor <;> simp) ?_
 refine CI.run 99 400 rfl ?_
 simp
 refine CI.p (qrb l (.fn (.func 295) [] [.pro [sD h], .pro [sD s]]) (fun r => zlc r.host h && zmf r.pre s) (fun r hr' => FnOk.clo (qlo r h s hh hs (hr r hr').1 (hr r hr').2) call295 rfl rfl) hl) call294 99 ?_
 simp
 exact fin0 (by simp [zp6]) rfl
theorem zwp (w : Weight) : Ct prog 300 [st (wC w)] [] [] (int (za9 w)) [] := by
 refine Ct.B func300 mixed 99 400 ?_
 simp
 have e := bndW w.w
 exact fin0 (by simp [e, za9]) rfl
theorem qkc (l : List Weight) (hl : l.length ≤ 1000000) : Ct prog 299 [lst (l.map wC)] [] [] (int (ze3 l)) [] := by
 refine Ct.B func299 mixed 99 400 ?_
 simp
 refine LoopI.U mixed (l) (fun k => [(3, int (ze3 (l.take k.1))), (6, lst (l.map wC)), (7, int l.length), (8, int k.1)]) (fun k => []) 64 [] (by constructor <;> simp [zok]) ?_
 rintro ⟨k, hk1⟩ B hB
 refine CI.run 99 400 rfl ?_
 simp [zok]
 refine sBI (fun h => ?_) (fun h => ?_)
 ·have hk : k < (l).length := by simpa using h
  obtain ⟨w, hx, hr, hm, ht, hd⟩ := inL hk
  have hw := wr (k := k) (by omega)
  simp only [h]
  simp [hr, hw]
  have hb := zol (l.take k)
  have hwb := zib w
  have hlen : (l.take k).length ≤ 1000000 := by simp; omega
  have w1 := zaa (n := ze3 (l.take k) + za9 w) (by omega) (by omega)
  refine CI.p (zwp w) call300 99 ?_ (ha := by simp [w1])
  simp [w1]
  refine hB _ ⟨k + 1, by omega⟩ [] ?_ (by simp; omega)
  constructor <;> simp [hw, ht, zyw]
 ·have hkl : k = (l).length := by simp at h; omega
  subst hkl
  simp only [h]
  simp [List.take_length, List.drop_length]
  exact fin0 (by simp) rfl
theorem qil (l : List Weight) (draw : Int) (hl : l.length ≤ 1000000) : Ct prog 227 [lst (l.map wC), int draw] [] [] (.tup [str (zl7 l draw).1, bool (zl7 l draw).2]) [] := by
 refine Ct.B func227 mixed 99 400 ?_
 simp
 have hb := zol l
 refine CI.p (qkc l hl) call299 99 ?_
 simp
 unfold zl7
 generalize ze3 l = n at *
 by_cases hn : n = 0
 ·simp [hn]
  exact fin0 (by simp) rfl
 ·have hn1 : ¬ (n : Int) = 0 := hn
  have e0 : (if 0 < draw then draw else 0).tmod n = (max 0 draw).tmod n := by rw [show (if 0 < draw then draw else 0) = max 0 draw by omega]
  have h2 := Int.tmod_lt_of_pos (max 0 draw) (b := n) (by omega)
  have h3 := Int.tmod_nonneg (a := max 0 draw) n (by omega)
  simp [hn, e0]
  generalize (max 0 draw).tmod n = n0 at *
  refine LoopI.inv mixed rfl (ι := {z : Nat × Int // z.1 ≤ l.length ∧ ChI l n0 z.1 z.2}) (fun k => [(7, int k.1.2), (18, lst (l.map wC)), (19, int l.length), (20, int k.1.1)]) (fun k => []) 64 (fun k => l.length - k.1.1) ⟨(0, n0), by omega, ⟨rfl, h3, Int.le_refl _⟩⟩ [] (by constructor <;> simp) ?_
  rintro ⟨⟨k, left⟩, hk1, hI⟩ B hB
  simp only at hk1 hI
  refine CI.run 99 400 rfl ?_
  simp
  refine sBI (fun h => ?_) (fun h => ?_) <;> simp only [h] <;> simp <;> (try simp only [nT, nF, dT, dF] at h)
  ·have hk : k < l.length := by simpa using h
   obtain ⟨w, hx, hr, hm, ht, hd⟩ := inL hk
   have hw := wr (k := k) (by omega)
   have hwb := zib w
   have l0 := hI.l0
   have l1 := hI.l1
   obtain ⟨s1, s2⟩ := hI.step hd
   have w1 := zaa (n := left - za9 w) (by omega) (by omega)
   simp [hr, hw]
   refine CI.p (zwp w) call300 99 ?_ (ha := by simp [w1])
   simp [w1]
   refine sBI (fun h3 => ?_) (fun h3 => ?_) <;> simp only [h3] <;> simp <;> (try simp only [nT, nF, dT, dF] at h3)
   ·first | exact fin0 (by simp [s1 h3]) rfl | exact zac (by simp [s1 h3])
   ·refine hB _ ⟨(k + 1, left - za9 w), hk, s2 h3⟩ [] ?_ (by simp; omega)
    constructor <;> simp [hw, w1]
  ·have hkl : k = l.length := by simp at h; omega
   subst hkl
   exact fin0 (by simp [hI.last]) rfl
theorem ql3 (l : List Int) (draw : Int) (hl : l.length ≤ 1000000) : Ct prog 228 [lst (l.map intC), int draw] [] [] (.tup [int (znh l draw).1, bool (znh l draw).2]) [] := by
 refine Ct.B func228 mixed 99 400 ?_
 simp
 by_cases hq : l = []
 ·subst hq
  simp
  exact fin0 (by simp [znh]) rfl
 ·obtain ⟨k, e1, e2, e3⟩ := qef draw hq
  have hz : ¬ (l.length : Int) = 0 := by have := List.length_pos_iff.2 hq; omega
  simp [hq, e1, e2]
  exact fin0 (by simp [e3, e2]) rfl
end Go.Proofs.YtmhfcgpmmghakaaGreatDoor
namespace Go.Proofs.YtmhfcgpmmghakaaGreatDoor
open Go.AI Go.G Tryz Go.Shelf Go.RowKit Go.Lib Go.Sort
set_option maxRecDepth 1000000
set_option maxHeartbeats 4000000 in
theorem zwc : zyq prog 354 3 59 := by
 intro blk cap k len news w W2 hk hlen hm A hA hsrc s1 s2 s3 hcl
 have t22 : prog.underlying 59 = some (.slice 256) := by kernel_rfl
 obtain ⟨i0, d0, z0, hi0, _, _, hti⟩ := zae qkg
 have hz1 : i0.size = 3 := (congrArg TI.sz hti).symm
 obtain ⟨W1, hW1⟩ : ∃ W1, W1 = w.drew.setCells blk (0 + k * 3) news := ⟨_, rfl⟩
 rw [← hW1] at hcl
 have hW : Hid (W1 = w.drew.setCells blk (0 + k * 3) news) := hW1
 have hic : k ≤ cap := by omega
 have hb1 : (0 : Int) ≤ (k : Int) + 1 := by omega
 have hb2 : (k : Int) + 1 ≤ len := by omega
 have mixed : prog.follows .mixedOrders = true := mixed
 have hjc : k + 1 ≤ cap := by omega
 clear hW1
 go_enter func354, ntmps354
 go_wp2_with fail
 go_region_law_o (refine step_append_room rfl (.tmp 22) (.tmp 25) 59 rfl 256 i0 3 t22 hi0 hz1 blk 0 k cap (by simp [Act.eval, Act.put]) A (len - (k + 1)) (cap - (k + 1)) news (by simp [Act.eval, Act.put]) s1.out hsrc.out s2.out (by omega) s3.out ?_; rw [← hW.out])
 go_wp2
 go_ret
 refine ⟨by rw [show len - 1 = k + (len - (k + 1)) by omega]; rfl, rfl⟩
set_option maxHeartbeats 4000000 in
theorem zwb : zyq prog 100 13 83 := by
 intro blk cap k len news w W2 hk hlen hm A hA hsrc s1 s2 s3 hcl
 have t22 : prog.underlying 83 = some (.slice 158) := by kernel_rfl
 obtain ⟨i0, d0, z0, hi0, _, _, hti⟩ := zae qkh
 have hz1 : i0.size = 13 := (congrArg TI.sz hti).symm
 obtain ⟨W1, hW1⟩ : ∃ W1, W1 = w.drew.setCells blk (0 + k * 13) news := ⟨_, rfl⟩
 rw [← hW1] at hcl
 have hW : Hid (W1 = w.drew.setCells blk (0 + k * 13) news) := hW1
 have hic : k ≤ cap := by omega
 have hb1 : (0 : Int) ≤ (k : Int) + 1 := by omega
 have hb2 : (k : Int) + 1 ≤ len := by omega
 have mixed : prog.follows .mixedOrders = true := mixed
 have hjc : k + 1 ≤ cap := by omega
 clear hW1
 go_enter func100, ntmps100
 go_wp2_with fail
 go_region_law_o (refine step_append_room rfl (.tmp 22) (.tmp 25) 83 rfl 158 i0 13 t22 hi0 hz1 blk 0 k cap (by simp [Act.eval, Act.put]) A (len - (k + 1)) (cap - (k + 1)) news (by simp [Act.eval, Act.put]) s1.out hsrc.out s2.out (by omega) s3.out ?_; rw [← hW.out])
 go_wp2
 go_ret
 refine ⟨by rw [show len - 1 = k + (len - (k + 1)) by omega]; rfl, rfl⟩
end Go.Proofs.YtmhfcgpmmghakaaGreatDoor
namespace Go.Proofs.YtmhfcgpmmghakaaGreatDoor
open Go.AI Go.G Tryz
set_option maxRecDepth 20000
attribute [simp] ntmps347 results347 ntmps291 results291 ntmps293 results293 ntmps153 results153 ntmps301 results301
theorem qcv (p : Pins) (id : Int) (h : p.snaps.length ≤ 1000000) : Ct prog 347 [st (zgv p), int id] [] [] (int (zby p id)) [] := by
 refine Ct.of_body func347 rfl mixed (by rw [ntmps347]; simp) (CI.seq (CI.cutTo mixed (ι := Unit) (fun _ => [(1, int id), (2, .ptr 64 0)]) (fun _ => [(64, .cells [int p.next, lst (p.snaps.map zb2)] 61)]) 65 rfl (fun B hB => CI.run 99 400 rfl ?_) fun _ => ?_))
 ·simp
  refine hB _ () [] ?_
  constructor <;> simp
 refine CI.jumps mixed (Plain.retC _ _ _ _ _) (ι := {k : Nat // k ≤ p.snaps.length ∧ zcv p.snaps id p.snaps.length = zcv p.snaps id k}) (fun k => [(1, int id), (2, .ptr 64 0), (5, int ((k.1 : Int) - 1))]) (fun k => [(64, .cells [int p.next, lst (p.snaps.map zb2)] 61)]) 65 (fun k => k.1) ⟨p.snaps.length, Nat.le_refl _, rfl⟩ rfl (fun B hB => ?_) ?_
 ·refine CI.run 99 400 rfl ?_
  simp
  refine CI.p (zqt p (by omega)) call153 99 ?_
  simp
  refine hB _ [] ?_
  constructor <;> simp
 rintro ⟨k, hk, e⟩ B hB
 cases k with
 | zero =>
   refine CI.run 3 400 rfl ?_
   simp
   exact fin0 (by simp [zby, e, zcv]) rfl
 | succ j =>
   have hj : j < p.snaps.length := by omega
   have e1 : ((j + 1 : Nat) : Int) - 1 = j := by omega
   have e2 : p.snaps[j]? = some p.snaps[j] := List.getElem?_eq_getElem hj
   generalize hs : p.snaps[j] = s at *
   by_cases hq : s.id = id
   ·have e3 : zcv p.snaps id (j + 1) = j := by simp [zcv, e2, hq]
    refine CI.run 3 400 rfl ?_
    simp [e1, e2, hj, hs, hq]
    exact fin0 (by simp [zby, e, e3]) rfl
   ·have e3 : zcv p.snaps id (j + 1) = zcv p.snaps id j := by simp [zcv, e2, hq]
    have w1 : IntKind.wrap .i64 ((j : Int) - 1) = j - 1 := zaa (by omega) (by omega)
    refine CI.run 3 400 rfl ?_
    simp [e1, e2, hj, hs, hq, w1]
    refine CI.cutTo mixed (ι := Unit) (fun _ => [(1, int id), (2, .ptr 64 0), (5, int ((j : Int) - 1))]) (fun _ => [(64, .cells [int p.next, lst (p.snaps.map zb2)] 61)]) 65 rfl (fun B' hB' => CI.run 99 400 rfl ?_) fun _ => CI.goto ⟨rfl, hB _ ⟨j, by omega, by rw [e, e3]⟩ [] ?_ (by simp)⟩
    ·simp [w1]
     refine hB' _ () [] ?_
     constructor <;> simp
    ·constructor <;> simp
theorem znv (l : List Snap) (hne : l ≠ []) (hl : l.length ≤ 1000000) : Ct prog 196 [lst (l.map zb2)] [] [] (.own 64) [(64, .grow 3 (l.map zb2) 256)] := by
 cases l with
 | nil => exact absurd rfl hne
 | cons x l => exact zpk x l (by simp at hl; omega)
theorem qr1 (p : Pins) (hp : OkPins p) : Ct prog 291 [st (zgv p)] [] [] (.tup [st (zgv (pinP p).1), int (pinP p).2.1, int (pinP p).2.2]) [] := by
 refine Ct.B func291 mixed 99 400 ?_
 simp
 refine CI.p (zhg p hp) call152 99 ?_
 simp
 have hs := zfr p
 have hb := zhh (saneP_iff.1 (zbx p)).1
 have hq0 := zbx p
 unfold pinP
 generalize zat p = q at *
 refine CI.p (zqt q (by omega)) call153 99 ?_
 simp
 obtain ⟨nx, l⟩ := q
 simp only at *
 rcases zo6 l with e | ⟨i, s, e⟩
 ·subst e
  simp
  exact fin0 (by simp [pinQ]) rfl
 ·subst e
  have hs2 := (hb s (by simp)).2.1
  have hs0 := zkd (saneP_iff.1 hq0).1 s (by simp)
  have hsl : i.length + 1 ≤ 1000 := by simpa using hs
  have e1 : (((i ++ [s]).length : Int) - 1) = i.length := by simp
  have e2 : ¬ (i.length : Int) < 0 := by omega
  by_cases h1 : s.pins = 10000
  ·simp [e1, e2, h1]
   exact fin0 (by simp [pinQ, h1]) rfl
  ·simp [e1, e2, h1]
   have w1 := zaa (n := s.pins + 1) (by omega) (by omega)
   refine CI.cc [] (znv (i ++ [s]) (by simp) (by simp; omega)) call196 99 ?_
   simp
   have hlt : (i.length : Int) < i.length + 1 := by omega
   simp [hlt, zxy, qgf, w1]
   refine ⟨by decide +kernel, ?_⟩
   exact fin0 (by simp [pinQ, h1]) rfl
theorem qng (p : Pins) (id : Int) (hp : OkPins p) : Ct prog 293 [st (zgv p), int id] [] [] (.tup [lst (((getP p id).getD []).map resC), bool (getP p id).isSome]) [] := by
 refine Ct.B func293 mixed 99 400 ?_
 simp
 refine CI.p (zhg p hp) call152 99 ?_
 simp
 have hs := zfr p
 unfold getP getQ
 generalize zat p = q at *
 refine CI.p (qcv q id (by omega)) call347 99 ?_
 simp
 have hr := zio q.snaps id q.snaps.length
 change -1 ≤ zby q id ∧ zby q id < q.snaps.length at hr
 by_cases h1 : zby q id < 0
 ·simp [h1]
  exact fin0 (by simp [h1]) rfl
 ·obtain ⟨k, hk⟩ : ∃ k : Nat, zby q id = k := ⟨(zby q id).toNat, by omega⟩
  rw [hk] at h1 hr ⊢
  have hkl : k < q.snaps.length := by omega
  simp [hk, h1, hkl]
  exact fin0 (by simp [h1, hkl]) rfl
theorem delS (l : List (List D)) (k : Nat) (hk : k < l.length) : Ct prog 354 [.own 0, int k, int ((k : Int) + 1)] [] [(0, .grow 3 l 256)] (lst (l.eraseIdx k)) [] :=
 Ct.deleteT zwc (by kernel_rfl) qkg rfl rfl rfl (by decide) hk
theorem qmw (nx : Int) (l : List (List D)) (hl : l.length ≤ 1000000) : Ct prog 153 [.agg [int nx, .own 0]] [(0, .grow 3 l 256)] [] (int ((l.length : Int) - 1)) [] := by
 refine Ct.B func153 mixed 99 400 ?_
 simp
 have w := zaa (n := (l.length : Int) - 1) (by omega) (by omega)
 simp [w]
 exact ⟨[], by constructor <;> simp [nmF, inB]⟩
theorem qrw (p : Pins) (id : Int) (hp : OkPins p) : Ct prog 301 [st (zgv p), int id] [] [] (.tup [st (zgv (relP p id).1), int (relP p id).2]) [] := by
 refine Ct.B func301 mixed 99 400 ?_
 simp
 refine CI.p (zhg p hp) call152 99 ?_
 simp
 have hs := zfr p
 have hb := zhh (saneP_iff.1 (zbx p)).1
 have hq0 := zbx p
 unfold relP
 generalize zat p = q at *
 refine CI.p (qcv q id (by omega)) call347 99 ?_
 simp
 have hr := zio q.snaps id q.snaps.length
 change -1 ≤ zby q id ∧ zby q id < q.snaps.length at hr
 by_cases h1 : zby q id < 0
 ·simp [h1]
  exact fin0 (by simp [relQ, h1]) rfl
 ·obtain ⟨k, hk⟩ : ∃ k : Nat, zby q id = k := ⟨(zby q id).toNat, by omega⟩
  rw [hk] at h1 hr
  have hkl : k < q.snaps.length := by omega
  have e2 : q.snaps[k]? = some q.snaps[k] := List.getElem?_eq_getElem hkl
  have hm : q.snaps[k] ∈ q.snaps := List.getElem_mem hkl
  generalize hsn : q.snaps[k] = s at *
  have hs2 := (hb s hm).2.1
  have hs0 := zkd (saneP_iff.1 hq0).1 s hm
  simp [hk, h1, hkl, hsn]
  refine CI.p (qed s) call197 99 ?_
  simp
  by_cases h2 : s.pins = 0
  ·simp [h2]
   exact fin0 (by simp [relQ, hk, h1, e2, h2]) rfl
  ·simp [h2]
   have w1 := zaa (n := s.pins - 1) (by omega) (by omega)
   have hne : q.snaps ≠ [] := by intro e; rw [e] at hkl; simp at hkl
   refine CI.cc [] (znv q.snaps hne (by omega)) call196 99 ?_ (ha := by simp [w1, hkl, hsn]) (hk := by simp [w1, hkl, hsn])
   simp [w1, hkl, hsn]
   have hll : ((q.snaps.map zb2).set k [iD s.id, iD (s.pins - 1), lD (s.l.map resC)]).length ≤ 1000000 := by simp; omega
   refine CI.cc [1472] (qmw q.next ((q.snaps.map zb2).set k [iD s.id, iD (s.pins - 1), lD (s.l.map resC)]) hll) call153 99 ?_
   simp
   by_cases h3 : (k : Int) = q.snaps.length - 1
   ·have hA : relQ q id = (⟨q.next, q.snaps.set k { s with pins := s.pins - 1 }⟩, 0) := by
     unfold relQ
     rw [if_neg (by omega), hk, Int.toNat_natCast, e2]
     simp only [h2, if_false]
     rw [if_neg (by omega)]
    rw [hA]
    simp [h3]
    have h5 : q.snaps.length - 1 = k := by omega
    exact fin0 (by simp [h5]) rfl
   ·simp [h3, hkl]
    refine CI.p (qed { s with pins := s.pins - 1 }) call197 99 ?_
    simp
    by_cases h4 : s.pins - 1 = 0
    ·have hA : relQ q id = (⟨q.next, q.snaps.eraseIdx k⟩, 0) := by
      unfold relQ
      rw [if_neg (by omega), hk, Int.toNat_natCast, e2]
      simp only [h2, if_false]
      rw [if_pos (by omega)]
     rw [hA]
     have w2 := zaa (n := (k : Int) + 1) (by omega) (by omega)
     simp [h4, w2]
     refine CI.cc [1472] (delS ((q.snaps.map zb2).set k [iD s.id, iD 0, lD (s.l.map resC)]) k (by simpa using hkl)) call354 99 ?_
     simp
     exact fin0 (by simp [zg9, List.eraseIdx_set_eq]) rfl
    ·have hA : relQ q id = (⟨q.next, q.snaps.set k { s with pins := s.pins - 1 }⟩, 0) := by
      unfold relQ
      rw [if_neg (by omega), hk, Int.toNat_natCast, e2]
      simp only [h2, if_false]
      rw [if_neg (by omega)]
     rw [hA]
     simp [h4]
     exact fin0 (by simp) rfl
end Go.Proofs.YtmhfcgpmmghakaaGreatDoor
namespace Go.Proofs.YtmhfcgpmmghakaaGreatDoor
open Go.AI Go.G Tryz
set_option maxRecDepth 20000
attribute [simp] ntmps222 results222 ntmps229 results229
theorem qn2 (s : Side) (h : OkX s) : Ct prog 222 [st (zcc s)] [] [] (.tup [st (zcc (zf8 s).1), int (zf8 s).2.1, int (zf8 s).2.2]) [] := by
 refine Ct.B func222 mixed 99 400 ?_
 simp
 refine CI.p (zly s h) call83 99 ?_
 simp
 unfold zf8
 have ho := h.sound
 generalize soundX s = q at ho ⊢
 refine CI.p (qr1 q.p ho.pins) call291 99 ?_
 simp
 exact fin0 (by simp) rfl
theorem qsj (s : Side) (id : Int) (h : OkX s) : Ct prog 229 [st (zcc s), int id] [] [] (.tup [st (zcc (endX s id).1), lst ((endX s id).2.1.map zaj), int (endX s id).2.2]) [] := by
 refine Ct.B func229 mixed 99 400 ?_
 simp
 refine CI.p (zly s h) call83 99 ?_
 simp
 unfold endX
 have ho := h.sound
 have ht := zuy (zif s)
 generalize soundX s = q at ho ht ⊢
 refine CI.p (qrw q.p id ho.pins) call301 99 ?_
 simp
 have o2 := qc4 id ho.pins
 unfold endQ
 dsimp only
 generalize relP q.p id = R at o2 ⊢
 refine CI.p (zxw R.1 o2) call198 99 ?_
 simp
 refine CI.p (zxw q.p ho.pins) call198 99 ?_
 simp
 refine CI.p (qey (zd6 R.1) (zd6 q.p) (by have := zqx o2; omega)) call278 99 ?_
 simp
 refine ⟨by decide +kernel, ?_⟩
 refine sGI (fun h1 => ?_) (fun h1 => ?_) <;> simp only [h1] <;> simp
 ·have h1' : zd6 R.1 = zd6 q.p := by simpa using h1
  exact fin0 (by simp [h1']) rfl
 have h1' : ¬ zd6 R.1 = zd6 q.p := by simpa using h1
 refine sGI (fun h2 => ?_) (fun h2 => ?_) <;> simp only [h2] <;> simp
 ·have h2' : q.up = false := by simpa using h2
  exact fin0 (by simp [h1', h2']) rfl
 have h2' : q.up = true := by simpa using h2
 refine CI.p (zty { q with p := R.1 }) call86 99 ?_
 simp
 refine sBI (fun h3 => ?_) (fun h3 => ?_) <;> simp only [h3] <;> simp
 ·exact fin0 (by simp [h1', h2', h3]) rfl
 ·refine CI.p (zhj { q with p := R.1 } ⟨3, q.epoch, 0, 0, 0, [], [], 0, [], []⟩ (ho.withP o2) ht.2 ht.1) call130 99 ?_
  simp
  refine ⟨by decide +kernel, ?_⟩
  exact fin0 (by simp [h1', h2', h3, zrv]) rfl
end Go.Proofs.YtmhfcgpmmghakaaGreatDoor
namespace Go.Proofs.YtmhfcgpmmghakaaGreatDoor
open Go.AI Go.G
set_option maxRecDepth 20000
attribute [simp] Tryz.ntmps292 Tryz.results292
theorem qdx (r : Res) (n : Int) : Ct Tryz.prog 292 [st (resC r), .d (.pro [iD n])] [] [] (bool (decide (r.kind = 0) && decide (r.port = n))) [] := by
 refine Ct.B Tryz.func292 mixed 9999 400 ?_
 simp
 repeat' first
  | (refine sGI (fun h => ?_) (fun h => ?_) <;> simp only [h] <;> simp [h])
  | (refine sBI (fun h => ?_) (fun h => ?_) <;> simp only [h] <;> simp [h])
  | (refine ⟨(show zaq _ _ from by decide +kernel), ?_⟩)
  | fail
 all_goals exact fin0 (by simp [*]) rfl
attribute [simp] Tryz.ntmps223 Tryz.results223
theorem qhl (l : List Res) (n : Int) (hl : l.length ≤ 9223372036854775807) : Ct Tryz.prog 223 [lst (l.map resC), int n] [] [] (.tup [st (resC ((zkl l n).getD zRes)), bool (zkl l n).isSome]) [] := by
 refine Ct.B Tryz.func223 mixed 1 400 ?_
 simp
 refine CI.s (tm := [(0, lst (l.map resC)), (3, .d (.pro [iD n])), (4, .ptr 128 0), (5, bool false)]) (mm := [(128, .cells [int 0, str ⟨#[]⟩, int 0, int 0, str ⟨#[]⟩, lst [], lst []] 109)]) (nx := 129) [] [64] (by constructor <;> simp) ?_
 refine CI.run 9999 400 rfl ?_
 simp
 refine CI.p (zqv l (.fn (.func 292) [] [.pro [iD n]]) (fun r => decide (r.kind = 0) && decide (r.port = n)) (fun r hr => FnOk.clo (qdx r n) Tryz.call292 rfl rfl) hl) Tryz.call230 9999 ?_
 simp
 rcases zhp (fun r : Res => decide (r.kind = 0) && decide (r.port = n)) l with ⟨h1, h2⟩ | ⟨i, x, h1, h2, h3, h4⟩
 ·have e : zkl l n = none := h2
  simp [h1]
  first | exact fin0 (by simp [e, zRes]) rfl | exact zac (by simp [e, zRes])
 ·have e : zkl l n = some x := h4
  have hx : l[i] = x := by rw [List.getElem?_eq_getElem h2] at h3; exact Option.some.inj h3
  have h0 : ¬ (i : Int) < 0 := by omega
  simp [h1, h0, h2, h3, hx]
  first | exact fin0 (by simp [e]) rfl | exact zac (by simp [e])
attribute [simp] Tryz.ntmps97 Tryz.results97
theorem qjo (a : G.Ask) : Ct Tryz.prog 97 [st (askC a)] [] [] (st (reqC (newR a))) [] := by
 refine Ct.B Tryz.func97 mixed 9999 400 ?_
 simp
 first | exact fin0 (by simp [newR, zAns]) rfl | exact zac (by simp [newR, zAns])
attribute [simp] Tryz.ntmps221 Tryz.results221
theorem qb2 (r : Req) : Ct Tryz.prog 221 [st (reqC r)] [] [] (bool (zgp r)) [] := by
 refine Ct.B Tryz.func221 mixed 9999 400 ?_
 simp
 repeat' first
  | (refine sGI (fun h => ?_) (fun h => ?_) <;> simp only [h] <;> simp [h])
  | (refine sBI (fun h => ?_) (fun h => ?_) <;> simp only [h] <;> simp [h])
  | (refine ⟨(show zaq _ _ from by decide +kernel), ?_⟩)
  | fail
 all_goals exact fin0 (by simp [*, zgp]) rfl
attribute [simp] Tryz.ntmps145 Tryz.results145
theorem zwx (r : Req) : Ct Tryz.prog 145 [st (reqC r)] [] [] (st (reqC (zec r))) [] := by
 refine Ct.B Tryz.func145 mixed 9999 400 ?_
 simp
 refine CI.p (qb2 r) Tryz.call221 9999 ?_
 simp
 refine sBI (fun h1 => ?_) (fun h1 => ?_) <;> simp only [h1] <;> simp <;> (try simp only [nT, nF, dT, dF] at h1)
 ·refine CI.p (qjo r.a) Tryz.call97 9999 ?_
  simp
  first | exact fin0 (by simp [zec, h1]) rfl | exact zac (by simp [zec, h1])
 ·first | exact fin0 (by simp [zec, h1]) rfl | exact zac (by simp [zec, h1])
attribute [simp] Tryz.ntmps99 Tryz.results99
theorem qca (r : Req) : Ct Tryz.prog 99 [st (reqC r)] [] [] (bool (zhy r)) [] := by
 refine Ct.B Tryz.func99 mixed 9999 400 ?_
 simp
 refine CI.p (zwx r) Tryz.call145 9999 ?_
 simp
 first | exact fin0 (by simp [zhy]) rfl | exact zac (by simp [zhy])
attribute [simp] Tryz.ntmps146 Tryz.results146
theorem qj1 (s : Side) (h : OkX s) : Ct Tryz.prog 146 [st (zcc s)] [] [] (st (zcc (soundX s))) [] := by
 refine Ct.B Tryz.func146 mixed 9999 400 ?_
 simp
 refine CI.p (qb0 s h) Tryz.call124 9999 ?_
 simp
 refine sBI (fun h1 => ?_) (fun h1 => ?_) <;> simp only [h1] <;> simp <;> (try simp only [nT, nF, dT, dF] at h1)
 ·refine CI.p (qdj s.w.c.cap s.inn.m) Tryz.call27 9999 ?_
  simp
  first | exact fin0 (by simp [soundX, h1]) rfl | exact zac (by simp [soundX, h1])
 ·first | exact fin0 (by simp [soundX, h1]) rfl | exact zac (by simp [soundX, h1])
abbrev zlk (w : Work) : List (Nat × Blk) := [(0, .cells ((qon w).map .d) 252)]
attribute [simp] Tryz.ntmps151 Tryz.results151
theorem zjy (w : Work) (a : Ans) (h : OkX w.s) : Ct Tryz.prog 151 [.ptr 0 0, st (ansC a)] [] (zlk w) (.tup []) (zlk (zgc w a)) := by
 refine Ct.B Tryz.func151 mixed 9999 400 ?_
 simp
 by_cases h1 : w.r.stage = 0
 ·simp [h1]
  refine ⟨by decide +kernel, ?_⟩
  first | (refine ⟨[], ?_, ?_, ?_, ?_, ?_, ?_, ?_⟩ <;> simp [nmF, inB, zgc, h1]; done) | (refine ⟨by decide +kernel, ?_⟩; refine ⟨[], ?_, ?_, ?_, ?_, ?_, ?_, ?_⟩ <;> simp [nmF, inB, zgc, h1])
 ·simp [h1]
  refine CI.p (qsj w.s w.r.id h) Tryz.call229 9999 ?_
  simp
  refine ⟨by decide +kernel, ?_⟩
  first | (refine ⟨[], ?_, ?_, ?_, ?_, ?_, ?_, ?_⟩ <;> simp [nmF, inB, zgc, h1]; done) | (refine ⟨by decide +kernel, ?_⟩; refine ⟨[], ?_, ?_, ?_, ?_, ?_, ?_, ?_⟩ <;> simp [nmF, inB, zgc, h1])
attribute [simp] Tryz.ntmps224 Tryz.results224
theorem qjc (w : Work) (h : OkX w.s) : Ct Tryz.prog 224 [.ptr 0 0] (zlk w) [] (lst ((zn3 w).map resC)) [] := by
 refine Ct.B Tryz.func224 mixed 9999 400 ?_
 simp
 refine CI.p (qng w.s.p w.r.id h.pins) Tryz.call293 9999 ?_
 simp
 refine ⟨by decide +kernel, ?_⟩
 first | (refine ⟨[], ?_, ?_, ?_, ?_, ?_, ?_, ?_⟩ <;> simp [nmF, inB, zn3]; done) | (refine ⟨by decide +kernel, ?_⟩; refine ⟨[], ?_, ?_, ?_, ?_, ?_, ?_, ?_⟩ <;> simp [nmF, inB, zn3])
attribute [simp] Tryz.ntmps225 Tryz.results225
theorem qne (w : Work) (k_ : Int) (n : Str) (h : OkX w.s) : Ct Tryz.prog 225 [.ptr 0 0, int k_, str n] (zlk w) [] (.tup [st (resC ((getW w k_ n).getD zRes)), bool (getW w k_ n).isSome]) [] := by
 refine Ct.B Tryz.func225 mixed 9999 400 ?_
 simp
 have hl := zx1 h.pins w.r.id
 refine CI.cc [0] (qjc w h) Tryz.call224 9999 ?_
 simp
 refine CI.p (qnf (zn3 w) ⟨k_, n⟩ (by unfold zn3; omega)) Tryz.call161 9999 ?_
 simp
 first | (refine ⟨[], ?_, ?_, ?_, ?_, ?_, ?_, ?_⟩ <;> simp [nmF, inB, getW]; done) | (refine ⟨by decide +kernel, ?_⟩; refine ⟨[], ?_, ?_, ?_, ?_, ?_, ?_, ?_⟩ <;> simp [nmF, inB, getW])
attribute [simp] Tryz.ntmps147 Tryz.results147
theorem qn3 (w : Work) (h : OkX w.s) : Ct Tryz.prog 147 [.ptr 0 0] [] (zlk w) (.tup []) (zlk (zj6 w)) := by
 refine Ct.B Tryz.func147 mixed 9999 400 ?_
 simp
 refine CI.p (qn2 w.s h) Tryz.call222 9999 ?_
 simp
 refine sBI (fun h1 => ?_) (fun h1 => ?_) <;> simp only [h1] <;> simp <;> (try simp only [nT, nF, dT, dF] at h1)
 ·refine CI.cc [0] (zjy w ⟨0, ⟨#[]⟩, 0⟩ h) Tryz.call151 9999 ?_
  simp
  first | (refine ⟨[], ?_, ?_, ?_, ?_, ?_, ?_, ?_⟩ <;> simp [nmF, inB, zj6, h1]; done) | (refine ⟨by decide +kernel, ?_⟩; refine ⟨[], ?_, ?_, ?_, ?_, ?_, ?_, ?_⟩ <;> simp [nmF, inB, zj6, h1])
 ·first | (refine ⟨[], ?_, ?_, ?_, ?_, ?_, ?_, ?_⟩ <;> simp [nmF, inB, zj6, h1]; done) | (refine ⟨by decide +kernel, ?_⟩; refine ⟨[], ?_, ?_, ?_, ?_, ?_, ?_, ?_⟩ <;> simp [nmF, inB, zj6, h1])
attribute [simp] Tryz.ntmps148 Tryz.results148
theorem qhk (w : Work) (h : OkX w.s) : Ct Tryz.prog 148 [.ptr 0 0] [] (zlk w) (.tup []) (zlk (zfw w)) := by
 refine Ct.B Tryz.func148 mixed 9999 400 ?_
 simp
 refine CI.cc [0] (qjc w h) Tryz.call224 9999 ?_
 simp
 have hl := zx1 h.pins w.r.id
 refine CI.p (qhl (zn3 w) w.r.a.port (by unfold zn3; omega)) Tryz.call223 9999 ?_
 simp
 refine ⟨by decide +kernel, ?_⟩
 cases e : zkl (zn3 w) w.r.a.port with
 | none =>
   simp [e]
   refine CI.cc [0] (zjy w ⟨1, ⟨#[]⟩, 0⟩ h) Tryz.call151 9999 ?_
   simp
   first | (refine ⟨[], ?_, ?_, ?_, ?_, ?_, ?_, ?_⟩ <;> simp [nmF, inB, zfw, e]; done) | (refine ⟨by decide +kernel, ?_⟩; refine ⟨[], ?_, ?_, ?_, ?_, ?_, ?_, ?_⟩ <;> simp [nmF, inB, zfw, e])
 | some x =>
   simp [e]
   first | (refine ⟨[], ?_, ?_, ?_, ?_, ?_, ?_, ?_⟩ <;> simp [nmF, inB, zfw, e]; done) | (refine ⟨by decide +kernel, ?_⟩; refine ⟨[], ?_, ?_, ?_, ?_, ?_, ?_, ?_⟩ <;> simp [nmF, inB, zfw, e])
attribute [simp] Tryz.ntmps149 Tryz.results149
theorem qlp (w : Work) (h : OkX w.s) (hs : SnP w.s.p) (ha : (bs w.r.a.host).length ≤ 1000000) (hp : (bs w.r.a.path).length ≤ 1000000) : Ct Tryz.prog 149 [.ptr 0 0] [] (zlk w) (.tup []) (zlk (zoy w)) := by
 refine Ct.B Tryz.func149 mixed 9999 400 ?_
 simp
 refine CI.cc [0] (qne w 1 w.r.route h) Tryz.call225 9999 ?_
 simp
 have hf : FitR ((getW w 1 w.r.route).getD zRes) := zx0 (hs.get w.r.id) _
 unfold zoy
 dsimp only
 generalize getW w 1 w.r.route = x at hf ⊢
 refine CI.p (qlt (x.getD zRes).rules w.r.a.host w.r.a.path ha hp hf.each hf.rules) Tryz.call226 9999 ?_
 simp
 refine ⟨by decide +kernel, ?_⟩
 have hc := qcd hf w.r.a.host w.r.a.path
 generalize zp6 (x.getD zRes).rules w.r.a.host w.r.a.path = u at hc ⊢
 cases x with
 | none =>
   simp
   refine CI.cc [0] (zjy w ⟨2, ⟨#[]⟩, 0⟩ h) Tryz.call151 9999 ?_
   simp
   first | (refine ⟨[], ?_, ?_, ?_, ?_, ?_, ?_, ?_⟩ <;> simp [nmF, inB]; done) | (refine ⟨by decide +kernel, ?_⟩; refine ⟨[], ?_, ?_, ?_, ?_, ?_, ?_, ?_⟩ <;> simp [nmF, inB])
 | some x =>
   simp
   cases hu : u.2 with
   | false =>
     simp [hu]
     refine CI.cc [0] (zjy w ⟨2, ⟨#[]⟩, 0⟩ h) Tryz.call151 9999 ?_
     simp
     first | (refine ⟨[], ?_, ?_, ?_, ?_, ?_, ?_, ?_⟩ <;> simp [nmF, inB, hu]; done) | (refine ⟨by decide +kernel, ?_⟩; refine ⟨[], ?_, ?_, ?_, ?_, ?_, ?_, ?_⟩ <;> simp [nmF, inB, hu])
   | true =>
     simp [hu]
     refine CI.p (qil u.1.split w.r.a.first hc) Tryz.call227 9999 ?_
     simp
     refine ⟨by decide +kernel, ?_⟩
     refine sBI (fun h3 => ?_) (fun h3 => ?_) <;> simp only [h3] <;> simp <;> (try simp only [nT, nF, dT, dF] at h3)
     ·refine CI.cc [0] (zjy w ⟨0, ⟨#[]⟩, 0⟩ h) Tryz.call151 9999 ?_
      simp
      first | (refine ⟨[], ?_, ?_, ?_, ?_, ?_, ?_, ?_⟩ <;> simp [nmF, inB, hu, h3]; done) | (refine ⟨by decide +kernel, ?_⟩; refine ⟨[], ?_, ?_, ?_, ?_, ?_, ?_, ?_⟩ <;> simp [nmF, inB, hu, h3])
     ·first | (refine ⟨[], ?_, ?_, ?_, ?_, ?_, ?_, ?_⟩ <;> simp [nmF, inB, hu, h3]; done) | (refine ⟨by decide +kernel, ?_⟩; refine ⟨[], ?_, ?_, ?_, ?_, ?_, ?_, ?_⟩ <;> simp [nmF, inB, hu, h3])
attribute [simp] Tryz.ntmps150 Tryz.results150
theorem qik (w : Work) (h : OkX w.s) (hs : SnP w.s.p) : Ct Tryz.prog 150 [.ptr 0 0] [] (zlk w) (.tup []) (zlk (zkr w)) := by
 refine Ct.B Tryz.func150 mixed 9999 400 ?_
 simp
 refine CI.cc [0] (qne w 2 w.r.cluster h) Tryz.call225 9999 ?_
 simp
 unfold zkr
 dsimp only
 generalize getW w 2 w.r.cluster = c
 refine CI.cc [0] (qne w 3 (c.getD zRes).to h) Tryz.call225 9999 ?_
 simp
 have hf : FitR ((getW w 3 (c.getD zRes).to).getD zRes) := zx0 (hs.get w.r.id) _
 generalize getW w 3 (c.getD zRes).to = e at hf ⊢
 refine CI.p (ql3 (e.getD zRes).hosts w.r.a.other hf.hosts) Tryz.call228 9999 ?_
 simp
 refine ⟨by decide +kernel, ?_⟩
 generalize znh (e.getD zRes).hosts w.r.a.other = u
 cases c with
 | none =>
   simp
   refine CI.cc [0] (zjy w ⟨0, ⟨#[]⟩, 0⟩ h) Tryz.call151 9999 ?_
   simp
   first | (refine ⟨[], ?_, ?_, ?_, ?_, ?_, ?_, ?_⟩ <;> simp [nmF, inB]; done) | (refine ⟨by decide +kernel, ?_⟩; refine ⟨[], ?_, ?_, ?_, ?_, ?_, ?_, ?_⟩ <;> simp [nmF, inB])
 | some c =>
   simp
   cases e with
   | none =>
     simp
     refine CI.cc [0] (zjy w ⟨0, ⟨#[]⟩, 0⟩ h) Tryz.call151 9999 ?_
     simp
     first | (refine ⟨[], ?_, ?_, ?_, ?_, ?_, ?_, ?_⟩ <;> simp [nmF, inB]; done) | (refine ⟨by decide +kernel, ?_⟩; refine ⟨[], ?_, ?_, ?_, ?_, ?_, ?_, ?_⟩ <;> simp [nmF, inB])
   | some e =>
     simp
     cases h3 : u.2 with
     | false =>
       simp [h3]
       refine CI.cc [0] (zjy w ⟨0, ⟨#[]⟩, 0⟩ h) Tryz.call151 9999 ?_
       simp
       first | (refine ⟨[], ?_, ?_, ?_, ?_, ?_, ?_, ?_⟩ <;> simp [nmF, inB, h3]; done) | (refine ⟨by decide +kernel, ?_⟩; refine ⟨[], ?_, ?_, ?_, ?_, ?_, ?_, ?_⟩ <;> simp [nmF, inB, h3])
     | true =>
       simp [h3]
       first | (refine ⟨[], ?_, ?_, ?_, ?_, ?_, ?_, ?_⟩ <;> simp [nmF, inB, h3]; done) | (refine ⟨by decide +kernel, ?_⟩; refine ⟨[], ?_, ?_, ?_, ?_, ?_, ?_, ?_⟩ <;> simp [nmF, inB, h3])
attribute [simp] Tryz.ntmps98 Tryz.results98
theorem qkt (r : Req) (s : Side) (h : OkX s) (hs : SnP s.p) (ha : (bs r.a.host).length ≤ 1000000) (hp : (bs r.a.path).length ≤ 1000000) : Ct Tryz.prog 98 [st (reqC r), st (zcc s)] [] [] (.tup [st (reqC (zgi r s).r), st (zcc (zgi r s).s), lst ((zgi r s).told.map zaj)]) [] := by
 refine Ct.B Tryz.func98 mixed 2 400 ?_
 simp
 refine CI.p (zwx r) Tryz.call145 2 ?_
 simp
 refine CI.p (qj1 s h) Tryz.call146 2 ?_
 simp
 refine ⟨by decide +kernel, ?_⟩
 unfold zgi stepQ
 have ho := h.sound
 have hso : SnP (soundX s).p := hs.soundX
 have hq := zwy r
 generalize soundX s = x at ho hso ⊢
 generalize zec r = q at hq ⊢
 refine CI.s (tm := [(7, .ptr 704 0), (4, .ptr 192 0), (5, .ptr 256 0), (6, lst [])]) (mm := [(704, .cells ((qon ⟨q, x, []⟩).map .d) 252), (192, .cells ((reqC ⟨⟨0, ⟨#[]⟩, ⟨#[]⟩, 0, 0⟩, 0, 0, ⟨#[]⟩, ⟨#[]⟩, zAns⟩).map .d) 156), (256, .cells ((zcc ⟨0, 0, false, ⟨0, 0, 0, 0, 0⟩, ⟨0, 0, 0, 0⟩, ⟨⟨0, []⟩, false, []⟩, ⟨0, []⟩⟩).map .d) 63)]) (nx := 768) [] [] (by constructor <;> simp [zAns]) ?_
 refine CI.run 9999 400 rfl ?_
 simp
 refine sBI (fun h1 => ?_) (fun h1 => ?_) <;> simp only [h1] <;> simp <;> (try simp only [nT, nF, dT, dF] at h1)
 ·refine CI.cc [704] (qn3 ⟨q, x, []⟩ ho) Tryz.call147 9999 ?_
  simp
  refine ⟨by decide +kernel, ?_⟩
  first | exact fin0 (by simp [h1]) rfl | exact zac (by simp [h1])
 refine sBI (fun h2 => ?_) (fun h2 => ?_) <;> simp only [h2] <;> simp <;> (try simp only [nT, nF, dT, dF] at h2)
 ·refine CI.cc [704] (qhk ⟨q, x, []⟩ ho) Tryz.call148 9999 ?_
  simp
  refine ⟨by decide +kernel, ?_⟩
  first | exact fin0 (by simp [h1, h2]) rfl | exact zac (by simp [h1, h2])
 refine sBI (fun h3 => ?_) (fun h3 => ?_) <;> simp only [h3] <;> simp <;> (try simp only [nT, nF, dT, dF] at h3)
 ·refine CI.cc [704] (qlp ⟨q, x, []⟩ ho hso (by rw [hq]; exact ha) (by rw [hq]; exact hp)) Tryz.call149 9999 ?_
  simp
  refine ⟨by decide +kernel, ?_⟩
  first | exact fin0 (by simp [h1, h2, h3]) rfl | exact zac (by simp [h1, h2, h3])
 refine sBI (fun h4 => ?_) (fun h4 => ?_) <;> simp only [h4] <;> simp <;> (try simp only [nT, nF, dT, dF] at h4)
 ·refine CI.cc [704] (qik ⟨q, x, []⟩ ho hso) Tryz.call150 9999 ?_
  simp
  refine ⟨by decide +kernel, ?_⟩
  first | exact fin0 (by simp [h1, h2, h3, h4]) rfl | exact zac (by simp [h1, h2, h3, h4])
 refine sBI (fun h5 => ?_) (fun h5 => ?_) <;> simp only [h5] <;> simp <;> (try simp only [nT, nF, dT, dF] at h5)
 ·refine CI.cc [704] (zjy ⟨q, x, []⟩ q.out ho) Tryz.call151 9999 ?_
  simp
  refine ⟨by decide +kernel, ?_⟩
  first | exact fin0 (by simp [h1, h2, h3, h4, h5]) rfl | exact zac (by simp [h1, h2, h3, h4, h5])
 ·refine ⟨by decide +kernel, ?_⟩
  first | exact fin0 (by simp [h1, h2, h3, h4, h5]) rfl | exact zac (by simp [h1, h2, h3, h4, h5])
end Go.Proofs.YtmhfcgpmmghakaaGreatDoor
namespace Go.Proofs.YtmhfcgpmmghakaaGreatDoor
open Go.AI Go.G Tryz
set_option maxRecDepth 20000
attribute [simp] ntmps216 results216 ntmps215 results215 ntmps214 results214 ntmps290 results290 ntmps217 results217 ntmps219 results219 ntmps218 results218 ntmps220 results220 ntmps144 results144 ntmps95 results95 ntmps96 results96 ntmps64 results64 ntmps101 results101 ntmps65 results65
theorem zo2 (l : List G.Task) (S : List Int) (n : Int) (ht1 : ∀ t ∈ l, 1 ≤ t.n ∧ t.n ≤ n) (hd1 : (S ++ l.map Task.n).Nodup) (hl : l.length ≤ 1000000) : Ct prog 216 [lst (l.map zdi), .own 0, int n] [] [(0, .map false [.int] false (zis S))] (bool true) [(0, .map false [.int] false (zis (S ++ l.map Task.n)))] := by
 refine Ct.B func216 mixed 99 400 ?_
 simp
 refine LoopI.U mixed (l) (fun k => [(1, .own 0), (2, int n), (9, lst (l.map zdi)), (10, int l.length), (11, int k.1)]) (fun k => [(0, .map false [.int] false (zis (S ++ (l.take k.1).map Task.n)))]) 64 [] (by constructor <;> simp) ?_
 rintro ⟨k, hk1⟩ B hB
 refine CI.run 99 400 rfl ?_
 simp
 refine sBI (fun h => ?_) (fun h => ?_)
 ·have hk : k < (l).length := by simpa using h
  obtain ⟨x, hx, hr, hm, ht, hd⟩ := inL hk
  have hw := wr (k := k) (by omega)
  simp only [h]
  simp [hr, hw]
  have hb := ht1 x hm
  have hL : x.n ∉ S ++ (l.take k).map Task.n := qh3 hd1 hr
  have c1 : ¬ x.n < 1 := by omega
  have c2 : ¬ n < x.n := by omega
  have c3 : zis (S ++ List.take k (List.map Task.n l)) [.int .i64 x.n] = none := by rw [zg2, ← List.map_take, if_neg hL]
  simp [c1, c2, c3]
  refine hB _ ⟨k + 1, by omega⟩ [] ?_ (by simp; omega)
  constructor <;> simp [hw, ht]
 ·have hkl : k = (l).length := by simp at h; omega
  subst hkl
  simp only [h]
  simp [List.take_length, List.drop_length]
  exact ⟨[], by constructor <;> simp [nmF, inB]⟩
theorem qq9 (a b : G.Task) (ha : 1 ≤ a.n ∧ a.n ≤ 100000) (hb : 1 ≤ b.n ∧ b.n ≤ 100000) : Ct prog 215 [st (zdi a), st (zdi b)] [] [] (int (a.n - b.n)) [] := by
 refine Ct.B func215 mixed 99 400 ?_
 simp
 have w1 := zaa (n := a.n - b.n) (by omega) (by omega)
 simp [w1]
 exact fin0 (by simp) rfl
theorem qf7 (l : List G.Task) (hl : l.length ≤ 1000000) (hs : l.Pairwise fun a b => a.n < b.n) (h : ∀ t ∈ l, 1 ≤ t.n ∧ t.n ≤ 100000) : Ct prog 214 [lst (l.map zdi), .d (fnD 215)] [] [] (bool true) [] := by
 refine Ct.B func214 mixed 99 400 ?_
 simp
 have w0 := zaa (n := (l.length : Int) - 1) (by omega) (by omega)
 refine LoopI.inv mixed rfl (ι := {k : Nat // k ≤ l.length}) (fun k => [(0, lst (l.map zdi)), (1, .d (fnD 215)), (5, int ((k.1 : Int) - 1))]) (fun k => []) 64 (fun k => k.1) ⟨l.length, Nat.le_refl _⟩ [] (by constructor <;> simp [w0]) ?_
 rintro ⟨k, hk⟩ B hB
 refine CI.run 99 400 rfl ?_
 simp
 refine sBI (fun h1 => ?_) (fun h1 => ?_) <;> simp only [h1] <;> simp <;> (try simp only [nT, nF, dT, dF] at h1)
 ·obtain ⟨j, rfl⟩ : ∃ j, k = j + 2 := ⟨k - 2, by omega⟩
  have hk1 : j + 1 < l.length := by omega
  have hk2 : j < l.length := by omega
  have hp := List.pairwise_iff_getElem.1 hs j (j + 1) hk2 hk1 (by omega)
  have hx := h _ (List.getElem_mem hk1)
  have hy := h _ (List.getElem_mem hk2)
  have hr1 : l[j + 1]? = some l[j + 1] := List.getElem?_eq_getElem hk1
  have hr2 : l[j]? = some l[j] := List.getElem?_eq_getElem hk2
  generalize hgx : l[j + 1] = x at hp hx hr1
  generalize hgy : l[j] = y at hp hy hr2
  have e1 : (j : Int) + 2 - 1 = j + 1 := by omega
  have e0 : (1 : Int) ≤ (j : Int) + 2 := by omega
  have e2 : (j : Int) + 1 < l.length := by omega
  have w1 : IntKind.wrap .i64 (j : Int) = j := zaa (by omega) (by omega)
  simp [e1, e0, e2, hr1, hr2, w1, hk1, hk2, hgx, hgy]
  refine CI.ff (FnOk.of (qq9 x y hx hy) call215 rfl rfl) rfl rfl rfl 99 ?_
  simp
  refine ⟨by decide +kernel, ?_⟩
  have e3 : ¬ x.n - y.n < 0 := by omega
  simp [e3]
  refine hB _ ⟨j + 1, by omega⟩ [] ?_ (by simp)
  constructor <;> simp [w1, e1]
 ·exact fin0 (by simp) rfl
theorem qhs (l : List G.Task) (kf : D) (p : G.Task → Bool) (hf : ∀ x ∈ l, FnOk prog (.d kf) [st (zdi x)] (bool (p x))) (hl : l.length ≤ 9223372036854775807) : Ct prog 290 [lst (l.map zdi), .d kf] [] [] (int (idxF p l)) [] := by
 refine Ct.B func290 mixed 99 400 ?_
 simp
 refine LoopI.inv mixed rfl (ι := {k : Nat // k ≤ (l).length ∧ (l.take k).all (fun x => !p x) = true}) (fun k => [(0, lst (l.map zdi)), (1, .d kf), (7, int l.length), (8, int k.1)]) (fun k => []) 64 (fun k => (l).length - k.1) ⟨0, by omega, by simp⟩ [] (by constructor <;> simp) ?_
 rintro ⟨k, hk1, hi⟩ B hB
 refine CI.run 99 400 rfl ?_
 simp
 refine sBI (fun h => ?_) (fun h => ?_)
 ·have hk : k < (l).length := by simpa using h
  obtain ⟨r, hx, hr, hm, ht, hd⟩ := inL hk
  have hw := wr (k := k) (by omega)
  simp only [h]
  simp [hr, hw]
  refine CI.ff (hf r hm) rfl rfl rfl 99 ?_
  simp
  refine sBI (fun hp => ?_) (fun hp => ?_) <;> simp only [hp] <;> simp
  ·exact fin0 (by simp [zek hi hr hp]) rfl
  ·refine hB _ ⟨k + 1, by omega, by simp [ht, hi, hp]⟩ [] ?_ (by simp; omega)
   constructor <;> simp [hw, ht, hp]
 ·have hkl : k = (l).length := by simp at h; omega
  subst hkl
  simp only [h]
  simp [List.take_length, List.drop_length]
  rw [List.take_length] at hi
  exact fin0 (by simp [zb1 (fun x hx => by have := List.all_eq_true.1 hi x hx; simpa using this)]) rfl
theorem zyj (l : List G.Task) (kf : D) (p : G.Task → Bool) (hf : ∀ x ∈ l, FnOk prog (.d kf) [st (zdi x)] (bool (p x))) (hl : l.length ≤ 9223372036854775807) : Ct prog 217 [lst (l.map zdi), .d kf] [] [] (bool (l.any p)) [] := by
 refine Ct.B func217 mixed 99 400 ?_
 simp
 refine CI.p (qhs l kf p hf hl) call290 99 ?_
 simp
 rw [zev]
 exact fin0 (by simp) rfl
theorem qcb (t : G.Task) : Ct prog 219 [st (zdi t)] [] [] (bool (zgp t.r && zhy t.r)) [] := by
 refine Ct.B func219 mixed 99 400 ?_
 simp
 refine CI.p (qb2 t.r) call221 99 ?_
 simp
 refine sGI (fun h1 => ?_) (fun h1 => ?_) <;> simp only [h1] <;> simp
 ·refine CI.p (qca t.r) call99 99 ?_
  simp
  exact fin0 (by simp [h1]) rfl
 ·exact fin0 (by simp [h1]) rfl
theorem qko (t : G.Task) : Ct prog 218 [st (zdi t)] [] [] (bool (!(zgp t.r && zhy t.r))) [] := by
 refine Ct.B func218 mixed 99 400 ?_
 simp
 refine CI.p (qcb t) call219 99 ?_
 simp
 exact fin0 (by simp) rfl
theorem qo5 (t : G.Task) : Ct prog 220 [st (zdi t)] [] [] (bool (zhy t.r)) [] := by
 refine Ct.B func220 mixed 99 400 ?_
 simp
 refine CI.p (qca t.r) call99 99 ?_
 simp
 exact fin0 (by simp) rfl
theorem zze (p : Pool) (h : OkPool p) : Ct prog 144 [st (zn9 p)] [] [] (bool true) [] := by
 refine Ct.B func144 mixed 99 400 ?_
 simp
 have c0 := h.n0
 have c1 := h.n1
 have c2 := h.lt
 have c3 := h.ld
 have c4 : ¬ p.next < 0 := by omega
 have c5 : ¬ 100000 < p.next := by omega
 have c6 : ¬ (64 : Int) < p.tasks.length := by omega
 have c7 : ¬ (1000 : Int) < p.done.length := by omega
 simp [c4, c5, c6, c7]
 refine CI.p (qf7 p.tasks (by omega) h.up (fun t ht => by have := h.rt t ht; omega)) call214 99 ?_
 simp
 refine CI.cc [1472] (zo2 p.tasks [] p.next h.rt (by simpa using zqg h.up) (by omega)) call216 99 ?_ (ha := by simp [zg1]) (hk := by simp [zg1])
 simp [zg1]
 refine CI.cc [1472] (zo2 p.done (p.tasks.map Task.n) p.next h.rd (qdg h) (by omega)) call216 99 ?_
 simp
 refine CI.p (zyj p.tasks (fnD 218) (fun t => !(zgp t.r && zhy t.r)) (fun t _ => FnOk.of (qko t) call218 rfl rfl) (by omega)) call217 99 ?_
 simp
 have e1 : p.tasks.any (fun t => !zgp t.r || !zhy t.r) = false := by
  rw [List.any_eq_false]; intro t ht; have := h.run t ht; simp [this.1, this.2]
 have e2 : p.done.any (fun t => zhy t.r) = false := by
  rw [List.any_eq_false]; intro t ht; have := h.over t ht; simp [this]
 simp [e1]
 refine CI.p (zyj p.done (fnD 220) (fun t => zhy t.r) (fun t _ => FnOk.of (qo5 t) call220 rfl rfl) (by omega)) call217 99 ?_
 simp
 exact fin0 (by simp [e2]) rfl
theorem zml (p : Pool) (h : OkPool p) : Ct prog 95 [st (zn9 p)] [] [] (st (zn9 p)) [] := by
 refine Ct.B func95 mixed 99 400 ?_
 simp
 refine CI.p (zze p h) call144 99 ?_
 simp
 exact fin0 (by simp) rfl
theorem qaf (x : G.Task) (l : List G.Task) (hl : l.length ≤ 1000000) : Ct prog 96 [lst ((x :: l).map zdi)] [] [] (.own 64) [(64, .grow 13 ((x :: l).map zdi) 158)] := by
 refine Ct.B func96 mixed 99 400 ?_
 simp
 refine ⟨by omega, ?_⟩
 exact ⟨[(64, 384)], by constructor <;> simp [nmF, inB]⟩
theorem zwf : Ct prog 96 [lst []] [] [] (.own 64) [(64, .grow 13 [] 158)] := by
 refine Ct.B func96 mixed 2 400 ?_
 simp
 refine ⟨?_, ?_⟩
 ·refine CI.cutTo mixed (ι := Unit) (fun _ => [(2, .d (.v (.slice none 0 0)))]) (fun _ => []) 65 rfl (fun B hB => ?_) (fun _ => ?_)
  ·refine CI.run 99 400 rfl ?_
   simp
   refine hB _ () [] ?_
   constructor <;> simp
  ·refine CI.nilOwn 2 13 158 rfl rfl ?_
   refine CI.run 99 400 rfl ?_
   simp
   exact ⟨[(64, 65)], by constructor <;> simp [nmF, inB]⟩
 ·skip
  exact ⟨[(64, 384)], by constructor <;> simp [nmF, inB]⟩
theorem zf0 (l : List G.Task) (hl : l.length ≤ 1000000) : Ct prog 96 [lst (l.map zdi)] [] [] (.own 64) [(64, .grow 13 (l.map zdi) 158)] := by
 cases l with
 | nil => exact zwf
 | cons x l => exact qaf x l (by simp at hl; omega)
theorem delT (l : List (List D)) (k : Nat) (hk : k < l.length) : Ct prog 100 [.own 0, int k, int ((k : Int) + 1)] [] [(0, .grow 13 l 158)] (lst (l.eraseIdx k)) [] :=
 Ct.deleteT zwb (by kernel_rfl) qkh rfl rfl rfl (by decide) hk
theorem qk0 (p : Pool) (a : G.Ask) (h : OkPool p) : Ct prog 64 [st (zn9 p), st (askC a)] [] [] (.tup [st (zn9 (zgj p a).1), int (zgj p a).2.1, int (zgj p a).2.2]) [] := by
 refine Ct.B func64 mixed 99 400 ?_
 simp
 refine CI.p (zml p h) call95 99 ?_
 simp
 have c0 := h.n0
 have c1 := h.n1
 have c2 := h.lt
 by_cases h1 : 64 ≤ p.tasks.length
 ·have h1' : (64 : Int) ≤ p.tasks.length := by omega
  simp [h1']
  exact fin0 (by simp [zgj, h1]) rfl
 ·have h1' : ¬ (64 : Int) ≤ p.tasks.length := by omega
  by_cases h2 : p.next = 100000
  ·simp [h1', h2]
   exact fin0 (by simp [zgj, h1, h2]) rfl
  ·have w1 := zaa (n := p.next + 1) (by omega) (by omega)
   simp [h1', h2, w1]
   refine CI.cc [] (zf0 p.tasks (by omega)) call96 99 ?_
   simp
   refine CI.p (qjo a) call97 99 ?_
   simp
   refine ⟨by omega, ?_⟩
   refine ⟨by decide +kernel, ?_⟩
   refine ⟨by decide +kernel, ?_⟩
   exact fin0 (by simp [zgj, h1, h2, newR]) rfl
theorem qpl (l : List G.Task) (t : G.Task) (hl : l.length ≤ 1000000) : Ct prog 101 [lst (l.map zdi), st (zdi t)] [] [] (lst ((zvi l t).map zdi)) [] := by
 refine Ct.B func101 mixed 99 400 ?_
 simp
 have w1 := zaa (n := (l.length : Int) - 1000) (by omega) (by omega)
 have w2 := zaa (n := (l.length : Int) - 1000 + 1) (by omega) (by omega)
 by_cases h1 : l.length ≤ 999
 ·have h2 : ¬ (0 : Int) < (l.length : Int) - 1000 + 1 := by omega
  have h3 : l.length - 999 = 0 := by omega
  simp [w1, w2, h2]
  refine CI.cc [] (zf0 l hl) call96 99 ?_
  simp
  refine ⟨by omega, ?_⟩
  refine ⟨by decide +kernel, ?_⟩
  exact fin0 (by simp [zvi, h3]) rfl
 ·obtain ⟨m, h3⟩ : ∃ m, l.length = m + 999 := ⟨l.length - 999, by omega⟩
  have h2 : (0 : Int) < (l.length : Int) - 1000 + 1 := by omega
  have h4 : (l.length : Int) - 1000 + 1 = (m : Int) := by omega
  have h5 : 0 < m := by omega
  have h6 : (m : Int) ≤ l.length := by omega
  have w3 : IntKind.wrap .i64 (m : Int) = m := zaa (by omega) (by omega)
  have h7 : l.length - 999 = m := by omega
  have h8 : l.drop m = l.drop (l.length - 999) := by rw [h7]
  simp [w1, w3, h4, h5, h6]
  rw [← List.map_drop]
  refine CI.cc [] (zf0 (l.drop m) (by simp; omega)) call96 99 ?_
  simp
  refine ⟨⟨zvw m (by simp), by omega⟩, ?_⟩
  refine ⟨by decide +kernel, ?_⟩
  exact fin0 (by simp [zvi, h7]) rfl
theorem qpj (p : Pool) (s : Side) (draw : Int) (h : OkPool p) (ho : OkX s) (hs : SnP s.p) (ha : ∀ t ∈ p.tasks, (bs t.r.a.host).length ≤ 1000000 ∧ (bs t.r.a.path).length ≤ 1000000) : Ct prog 65 [st (zn9 p), st (zcc s), int draw] [] [] (.tup [st (zn9 (zgw p s draw).1), st (zcc (zgw p s draw).2.1), lst ((zgw p s draw).2.2.1.map zaj), int (zgw p s draw).2.2.2]) [] := by
 refine Ct.B func65 mixed 99 400 ?_
 simp
 refine CI.p (zml p h) call95 99 ?_
 simp
 have c2 := h.lt
 have c3 := h.ld
 by_cases h1 : p.tasks = []
 ·have e : zgw p s draw = (⟨p.next, [], p.done⟩, s, [], 10) := by
   obtain ⟨n, T, D⟩ := p
   simp only at h1
   subst h1
   rfl
  rw [e]
  simp [h1]
  refine ⟨by decide +kernel, ?_⟩
  exact fin0 (by simp) rfl
 ·have hl : 0 < p.tasks.length := List.length_pos_iff.2 h1
  obtain ⟨e1, e2⟩ := qcz p draw hl
  have hr : p.tasks[pickAt p draw]? = some p.tasks[pickAt p draw] := List.getElem?_eq_getElem e2
  have hm : p.tasks[pickAt p draw] ∈ p.tasks := List.getElem_mem e2
  unfold zgw
  generalize pickAt p draw = k at *
  generalize hg : p.tasks[k] = t at *
  rw [hr]
  dsimp only
  simp [h1, e1, e2, hg]
  obtain ⟨ha1, ha2⟩ := ha t hm
  refine CI.p (qkt t.r s ho hs ha1 ha2) call98 99 ?_
  simp
  generalize zgi t.r s = w
  refine CI.cc [] (zf0 p.tasks (by omega)) call96 99 ?_ (ha := by simp [e2]) (hk := by simp [e2])
  simp [e2]
  refine CI.p (qca w.r) call99 99 ?_
  simp
  cases h2 : zhy w.r with
  | true =>
    simp [h2]
    refine ⟨by decide +kernel, ?_⟩
    exact fin0 (by simp [h2]) rfl
  | false =>
    have w1 := zaa (n := (k : Int) + 1) (by omega) (by omega)
    simp [h2, w1]
    refine CI.cc [2880] (delT ((p.tasks.map zdi).set k (zdi ⟨t.n, w.r⟩)) k (by simpa using e2)) call100 99 ?_
    simp
    refine CI.p (qpl p.done ⟨t.n, w.r⟩ (by omega)) call101 99 ?_
    simp
    refine ⟨by decide +kernel, ?_⟩
    exact fin0 (by simp [h2, zg9, List.eraseIdx_set_eq]) rfl
end Go.Proofs.YtmhfcgpmmghakaaGreatDoor
