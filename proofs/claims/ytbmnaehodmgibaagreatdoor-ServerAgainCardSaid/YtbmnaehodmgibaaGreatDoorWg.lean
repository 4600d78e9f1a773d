/-
  LAYERS 10, 13, 20: the walks of numbers of pushes, of frames, of sessions.
-/
import Derived.Test.YtbmnaehodmgibaaGreatDoorWa
import Derived.Test.YtbmnaehodmgibaaGreatDoorPs
import Derived.Test.YtbmnaehodmgibaaGreatDoorFe
import Derived.Test.YtbmnaehodmgibaaGreatDoorFc
import Derived.Test.YtbmnaehodmgibaaGreatDoorWe
import Derived.Test.YtbmnaehodmgibaaGreatDoorWf
set_option linter.unusedSimpArgs false
set_option linter.unusedVariables false
section
namespace Go.Proofs.YtbmnaehodmgibaaGreatDoor
open Go.AI Go.G
set_option maxRecDepth 20000
abbrev nnC (i : Nonce.Nn) : List D := [iD i.l0, iD i.l1, iD i.l2, iD i.l3, iD i.m]
attribute [simp] Tryz.ntmps124 Tryz.results124
theorem qkd (n : Int) : Ct Tryz.prog 124 [int n] [] [] (int (Nonce.bnd n)) [] := by
 refine Ct.B Tryz.func124 mixed 9999 400 ?_
 simp
 have e := qh5 n
 first | exact fin0 (by simp [e]) rfl | exact zaa (by simp [e])
attribute [simp] Tryz.ntmps60 Tryz.results60
theorem zog (n : Int) : Ct Tryz.prog 60 [int n] [] [] (.tup [st (ouC (Nonce.startO n)), st (nnC (Nonce.startI n))]) [] := by
 refine Ct.B Tryz.func60 mixed 9999 400 ?_
 simp
 refine CW.p (qkd n) Tryz.call124 9999 ?_
 simp
 first | exact fin0 (by simp [Nonce.startO, Nonce.startI]) rfl | exact zaa (by simp [Nonce.startO, Nonce.startI])
attribute [simp] Tryz.ntmps129 Tryz.results129
theorem zpb (k_ : Int) : Ct Tryz.prog 129 [int k_] [] [] (bool (Nonce.kindB k_)) [] := by
 refine Ct.B Tryz.func129 mixed 9999 400 ?_
 simp
 refine sG (fun h1 => ?_) (fun h1 => ?_) <;> simp only [h1] <;> simp <;> (try simp only [nT, nF, dT, dF] at h1)
 ·first | exact fin0 (by simp [Nonce.kindB, h1]) rfl | exact zaa (by simp [Nonce.kindB, h1])
 ·first | exact fin0 (by simp [Nonce.kindB, h1]) rfl | exact zaa (by simp [Nonce.kindB, h1])
attribute [simp] Tryz.ntmps118 Tryz.results118
theorem zol (i : Nonce.Nn) : Ct Tryz.prog 118 [st (nnC i)] [] [] (bool (Nonce.soundB i)) [] := by
 refine Ct.B Tryz.func118 mixed 9999 400 ?_
 simp
 refine LoopW.unroll mixed (Plain.retC _ _ _ _ _) rfl ?_
 refine CW.run 9999 400 rfl ?_
 simp
 refine ⟨by decide +kernel, ?_⟩
 refine LoopW.unroll mixed (Plain.retC _ _ _ _ _) rfl ?_
 refine CW.run 9999 400 rfl ?_
 simp
 refine ⟨by decide +kernel, ?_⟩
 refine LoopW.unroll mixed (Plain.retC _ _ _ _ _) rfl ?_
 refine CW.run 9999 400 rfl ?_
 simp
 refine ⟨by decide +kernel, ?_⟩
 refine LoopW.unroll mixed (Plain.retC _ _ _ _ _) rfl ?_
 refine CW.run 9999 400 rfl ?_
 simp
 refine ⟨by decide +kernel, ?_⟩
 refine LoopW.unroll mixed (Plain.retC _ _ _ _ _) rfl ?_
 refine CW.run 9999 400 rfl ?_
 simp
 refine sG (fun h => ?_) (fun h => ?_) <;> simp only [h] <;> simp
 ·refine CW.p (qkd i.m) Tryz.call124 9999 ?_
  simp
  have e := zy3 i h
  first | exact fin0 (by simp [e]) rfl | exact zaa (by simp [e])
 ·have e := qce i h
  first | exact fin0 (by simp [e]) rfl | exact zaa (by simp [e])
attribute [simp] Tryz.ntmps51 Tryz.results51
theorem qfg (o : Nonce.Ou) : Ct Tryz.prog 51 [st (ouC o)] [] [] (bool (Nonce.goodB o)) [] := by
 refine Ct.B Tryz.func51 mixed 9999 400 ?_
 simp
 obtain ⟨a, b, c, d, x, y, z, t, m⟩ := o
 refine LoopW.unroll mixed (Plain.retC _ _ _ _ _) rfl ?_
 refine CW.run 9999 400 rfl ?_
 simp
 repeat' first
  | (refine sG (fun h => ?_) (fun h => ?_) <;> simp only [h] <;> simp [h])
  | (refine sB (fun h => ?_) (fun h => ?_) <;> simp only [h] <;> simp [h])
  | (refine ⟨(show za4 _ _ from by decide +kernel), ?_⟩)
  | fail
 all_goals (first | (exact fin0 (by simp [Nonce.goodB, *]) rfl) | (refine ⟨by decide +kernel, ?_⟩; exact fin0 (by simp [Nonce.goodB, *]) rfl) | skip)
 all_goals
  refine LoopW.unroll mixed (Plain.retC _ _ _ _ _) rfl ?_
  refine CW.run 9999 400 rfl ?_
  simp
 repeat' first
  | (refine sG (fun h => ?_) (fun h => ?_) <;> simp only [h] <;> simp [h])
  | (refine sB (fun h => ?_) (fun h => ?_) <;> simp only [h] <;> simp [h])
  | (refine ⟨(show za4 _ _ from by decide +kernel), ?_⟩)
  | fail
 all_goals (first | (exact fin0 (by simp [Nonce.goodB, *]) rfl) | (refine ⟨by decide +kernel, ?_⟩; exact fin0 (by simp [Nonce.goodB, *]) rfl) | skip)
 all_goals
  refine LoopW.unroll mixed (Plain.retC _ _ _ _ _) rfl ?_
  refine CW.run 9999 400 rfl ?_
  simp
 repeat' first
  | (refine sG (fun h => ?_) (fun h => ?_) <;> simp only [h] <;> simp [h])
  | (refine sB (fun h => ?_) (fun h => ?_) <;> simp only [h] <;> simp [h])
  | (refine ⟨(show za4 _ _ from by decide +kernel), ?_⟩)
  | fail
 all_goals (first | (exact fin0 (by simp [Nonce.goodB, *]) rfl) | (refine ⟨by decide +kernel, ?_⟩; exact fin0 (by simp [Nonce.goodB, *]) rfl) | skip)
 all_goals
  refine LoopW.unroll mixed (Plain.retC _ _ _ _ _) rfl ?_
  refine CW.run 9999 400 rfl ?_
  simp
 repeat' first
  | (refine sG (fun h => ?_) (fun h => ?_) <;> simp only [h] <;> simp [h])
  | (refine sB (fun h => ?_) (fun h => ?_) <;> simp only [h] <;> simp [h])
  | (refine ⟨(show za4 _ _ from by decide +kernel), ?_⟩)
  | fail
 all_goals (first | (exact fin0 (by simp [Nonce.goodB, *]) rfl) | (refine ⟨by decide +kernel, ?_⟩; exact fin0 (by simp [Nonce.goodB, *]) rfl) | skip)
 all_goals
  refine LoopW.unroll mixed (Plain.retC _ _ _ _ _) rfl ?_
  refine CW.run 9999 400 rfl ?_
  simp
 all_goals
  refine CW.p (zol ⟨a, b, c, d, m⟩) Tryz.call118 9999 ?_
  simp
 all_goals (first | (exact fin0 (by simp [Nonce.goodB, Nonce.Ou.toI, *]) rfl) | (refine ⟨by decide +kernel, ?_⟩; exact fin0 (by simp [Nonce.goodB, Nonce.Ou.toI, *]) rfl))
attribute [simp] Tryz.ntmps128 Tryz.results128
theorem qi9 (o : Nonce.Ou) : Ct Tryz.prog 128 [st (ouC o)] [] [] (st (ouC (Nonce.outF o))) [] := by
 refine Ct.B Tryz.func128 mixed 9999 400 ?_
 simp
 refine CW.p (qfg o) Tryz.call51 9999 ?_
 simp
 refine sB (fun h1 => ?_) (fun h1 => ?_) <;> simp only [h1] <;> simp <;> (try simp only [nT, nF, dT, dF] at h1)
 ·first | exact fin0 (by simp [Nonce.outF, h1]) rfl | exact zaa (by simp [Nonce.outF, h1])
 ·refine CW.p (zog o.m) Tryz.call60 9999 ?_
  simp
  first | exact fin0 (by simp [Nonce.outF, h1]) rfl | exact zaa (by simp [Nonce.outF, h1])
attribute [simp] Tryz.ntmps62 Tryz.results62
theorem zz0 (o : Nonce.Ou) (k_ : Int) : Ct Tryz.prog 62 [st (ouC o), int k_] [] [] (.tup [st (ouC (Nonce.push o k_).1), int (Nonce.push o k_).2.1, int (Nonce.push o k_).2.2]) [] := by
 refine Ct.B Tryz.func62 mixed 9999 400 ?_
 simp
 refine CW.p (qi9 o) Tryz.call128 9999 ?_
 simp
 simp only [Nonce.push]
 have hb := Nonce.outF_ok o
 generalize Nonce.outF o = q at hb ⊢
 obtain ⟨A, B, C, D, X, Y, Z, T, M⟩ := q
 simp only [Nonce.Ou.ok] at hb
 have wA : IntKind.wrap .i64 (A + 1) = A + 1 := zae (by omega) (by omega)
 have wB : IntKind.wrap .i64 (B + 1) = B + 1 := zae (by omega) (by omega)
 have wC : IntKind.wrap .i64 (C + 1) = C + 1 := zae (by omega) (by omega)
 have wD : IntKind.wrap .i64 (D + 1) = D + 1 := zae (by omega) (by omega)
 refine CW.p (zpb k_) Tryz.call129 9999 ?_
 simp
 by_cases hk : Nonce.kindB k_ = true
 ·rcases Nonce.kindB_is hk with rfl | rfl | rfl | rfl
  all_goals
   simp [hk]
  all_goals
   repeat' first
    | (refine sG (fun h => ?_) (fun h => ?_) <;> simp only [h] <;> simp [h, wA, wB, wC, wD])
    | (refine sB (fun h => ?_) (fun h => ?_) <;> simp only [h] <;> simp [h, wA, wB, wC, wD])
    | (refine ⟨(show za4 _ _ from by decide +kernel), ?_⟩)
    | fail
  all_goals
   clear wA wB wC wD
   first
    | (refine fin0 ?_ rfl; simp_all [Nonce.pushQ, Nonce.Ou.open', Nonce.Ou.last, Nonce.Ou.set]; done)
    | (refine ⟨by decide +kernel, fin0 ?_ rfl⟩; simp_all [Nonce.pushQ, Nonce.Ou.open', Nonce.Ou.last, Nonce.Ou.set]; done)
 ·simp [hk]
  first | exact fin0 (by simp [Nonce.pushQ, hk]) rfl | exact zaa (by simp [Nonce.pushQ, hk])
attribute [simp] Tryz.ntmps188 Tryz.results188
theorem qg9 (o : Nonce.Ou) (k_ n : Int) : Ct Tryz.prog 188 [st (ouC o), int k_, int n] [] [] (.tup [st (ouC (Nonce.done o k_ n).1), int (Nonce.done o k_ n).2]) [] := by
 refine Ct.B Tryz.func188 mixed 9999 400 ?_
 simp
 refine CW.p (qi9 o) Tryz.call128 9999 ?_
 simp
 simp only [Nonce.done]
 generalize Nonce.outF o = q
 obtain ⟨A, B, C, D, X, Y, Z, T, M⟩ := q
 refine CW.p (zpb k_) Tryz.call129 9999 ?_
 simp
 by_cases hk : Nonce.kindB k_ = true
 ·rcases Nonce.kindB_is hk with rfl | rfl | rfl | rfl
  all_goals
   simp [hk]
  all_goals
   repeat' first
    | (refine sG (fun h => ?_) (fun h => ?_) <;> simp only [h] <;> simp [h])
    | (refine sB (fun h => ?_) (fun h => ?_) <;> simp only [h] <;> simp [h])
    | (refine ⟨(show za4 _ _ from by decide +kernel), ?_⟩)
    | fail
  all_goals
   first
    | (refine fin0 ?_ rfl; simp_all [Nonce.doneQ, Nonce.Ou.open', Nonce.Ou.last, Nonce.Ou.set]; done)
    | (refine ⟨by decide +kernel, fin0 ?_ rfl⟩; simp_all [Nonce.doneQ, Nonce.Ou.open', Nonce.Ou.last, Nonce.Ou.set]; done)
 ·simp [hk]
  first | exact fin0 (by simp [Nonce.doneQ, hk]) rfl | exact zaa (by simp [Nonce.doneQ, hk])
end Go.Proofs.YtbmnaehodmgibaaGreatDoor
end
section
namespace Go.Proofs.YtbmnaehodmgibaaGreatDoor
open Go.AI Go.G
set_option maxRecDepth 20000
attribute [simp] Tryz.ntmps195 Tryz.results195
theorem qdv (l : List G.Mark) (kf : D) (p : G.Mark → Bool) (hf : ∀ x ∈ l, FnOk Tryz.prog (.d kf) [st (zdv x)] (bool (p x))) (hl : l.length ≤ 9223372036854775807) : Ct Tryz.prog 195 [lst (l.map zdv), .d kf] [] [] (int (idxF p l)) [] := by
 refine Ct.B Tryz.func195 mixed 9999 400 ?_
 simp
 refine LoopW.inv mixed (Plain.retC _ _ _ _ _) rfl (ι := {k : Nat // k ≤ (l).length ∧ (l.take k).all (fun x => !p x) = true}) (fun k => [(0, lst (l.map zdv)), (1, .d kf), (7, int l.length), (8, int k.1)]) (fun k => []) 64 (fun k => (l).length - k.1) ⟨0, by omega, by simp⟩ [] (by constructor <;> simp) ?_
 rintro ⟨k, hk1, hi⟩ B hB
 refine CW.run 9999 400 rfl ?_
 simp
 refine sB (fun h => ?_) (fun h => ?_)
 ·have hk : k < (l).length := by simpa using h
  obtain ⟨r, hx, hr, hm, ht, hd⟩ := inL hk
  have hw := wr (k := k) (by omega)
  simp only [h]
  simp [hr, hw]
  refine CW.ff (hf r hm) rfl rfl rfl 9999 ?_
  simp
  refine sB (fun hp => ?_) (fun hp => ?_) <;> simp only [hp] <;> simp
  ·first | exact fin0 (by simp [zcl hi hr hp]) rfl | exact zaa (by simp [zcl hi hr hp])
  ·refine hB _ ⟨k + 1, by omega, by simp [ht, hi, hp]⟩ [] ?_ (by simp; omega)
   constructor <;> simp [hw, ht, hp]
 ·have hkl : k = (l).length := by simp at h; omega
  subst hkl
  simp only [h]
  simp [List.take_length, List.drop_length]
  rw [List.take_length] at hi
  first | exact fin0 (by simp [za9 (fun x hx => by have := List.all_eq_true.1 hi x hx; simpa using this)]) rfl | exact zaa (by simp [za9 (fun x hx => by have := List.all_eq_true.1 hi x hx; simpa using this)])
attribute [simp] Tryz.ntmps130 Tryz.results130
theorem zwi (l : List G.Mark) (kf : D) (p : G.Mark → Bool) (hf : ∀ x ∈ l, FnOk Tryz.prog (.d kf) [st (zdv x)] (bool (p x))) (hl : l.length ≤ 9223372036854775807) : Ct Tryz.prog 130 [lst (l.map zdv), .d kf] [] [] (bool (l.any p)) [] := by
 refine Ct.B Tryz.func130 mixed 9999 400 ?_
 simp
 refine CW.p (qdv l kf p hf hl) Tryz.call195 9999 ?_
 simp
 rw [zga]
 first | exact fin0 (by simp) rfl | exact zaa (by simp)
attribute [simp] Tryz.ntmps66 Tryz.results66
theorem zez (n m : Int) : Ct Tryz.prog 66 [int n, int m] [] [] (bool (rngB n m)) [] := by
 refine Ct.B Tryz.func66 mixed 9999 400 ?_
 simp
 repeat' first
  | (refine sG (fun h => ?_) (fun h => ?_) <;> simp only [h] <;> simp [h])
  | (refine sB (fun h => ?_) (fun h => ?_) <;> simp only [h] <;> simp [h])
  | (refine ⟨(show za4 _ _ from by decide +kernel), ?_⟩)
  | fail
 all_goals exact fin0 (by simp [*, rngB]) rfl
attribute [simp] Tryz.ntmps65 Tryz.results65
theorem zdo (b : Bool) (e : Int) : Ct Tryz.prog 65 [bool b, int e] [] [] (int (if b = true then 0 else e)) [] := by
 refine Ct.B Tryz.func65 mixed 9999 400 ?_
 simp
 refine sB (fun h1 => ?_) (fun h1 => ?_) <;> simp only [h1] <;> simp
 ·first | exact fin0 (by simp [h1]) rfl | exact zaa (by simp [h1])
 ·first | exact fin0 (by simp [h1]) rfl | exact zaa (by simp [h1])
attribute [simp] Tryz.ntmps64 Tryz.results64
theorem qbg (l : List Int) (hl : l.length ≤ 1000) : Ct Tryz.prog 64 [lst (l.map intC)] [] [] (int ((l.find? fun e => !decide (e = 0)).getD 0)) [] := by
 refine Ct.B Tryz.func64 mixed 9999 400 ?_
 simp
 refine LoopW.inv mixed (Plain.retC _ _ _ _ _) rfl (ι := {k : Nat // k ≤ (l).length ∧ (l.take k).all (fun e => decide (e = 0)) = true}) (fun k => [(5, lst (l.map intC)), (6, int l.length), (7, int k.1)]) (fun k => []) 64 (fun k => (l).length - k.1) ⟨0, by omega, by simp⟩ [] (by constructor <;> simp) ?_
 rintro ⟨k, hk1, hi⟩ B hB
 refine CW.run 9999 400 rfl ?_
 simp
 refine sB (fun h => ?_) (fun h => ?_)
 ·have hk : k < (l).length := by simpa using h
  obtain ⟨x, hx, hr, hm, ht, hd⟩ := inL hk
  have hw := wr (k := k) (by omega)
  simp only [h]
  simp [hr, hw]
  refine sB (fun h1 => ?_) (fun h1 => ?_) <;> simp only [h1] <;> simp <;> (try simp only [nT, nF, dT, dF] at h1)
  ·have e : (l.find? fun e => !decide (e = 0)) = some x := qd8 hi hr h1
   first | exact fin0 (by simp [e]) rfl | exact zaa (by simp [e])
  ·refine hB _ ⟨k + 1, by omega, by simp [ht, hi, h1]⟩ [] ?_ (by simp; omega)
   constructor <;> simp [hw, ht, h1]
 ·have hkl : k = (l).length := by simp at h; omega
  subst hkl
  simp only [h]
  simp [List.take_length, List.drop_length]
  rw [List.take_length] at hi
  have e : (l.find? fun e => !decide (e = 0)) = none := qbf hi
  first | exact fin0 (by simp [e]) rfl | exact zaa (by simp [e])
attribute [simp] Tryz.ntmps131 Tryz.results131
theorem qcg (m : G.Mark) : Ct Tryz.prog 131 [st (zdv m)] [] [] (bool (!rngB m.ver 2147483647)) [] := by
 refine Ct.B Tryz.func131 mixed 9999 400 ?_
 simp
 refine CW.p (zez m.ver 2147483647) Tryz.call66 9999 ?_
 simp
 first | exact fin0 (by simp) rfl | exact zaa (by simp)
attribute [simp] Tryz.ntmps67 Tryz.results67
theorem zy4 (f : G.Frame) (hf : OkFrame f) : Ct Tryz.prog 67 [st (zak f)] [] [] (bool (zbs f)) [] := by
 refine Ct.B Tryz.func67 mixed 9999 400 ?_
 simp
 refine CW.p (zwi f.have_ (fnD 131) (fun m => !rngB m.ver 2147483647) (fun m _ => FnOk.of (qcg m) Tryz.call131 rfl rfl) hf.have_) Tryz.call130 9999 ?_
 simp
 rw [zj9]
 refine sG (fun h1 => ?_) (fun h1 => ?_) <;> simp only [h1] <;> simp
 ·have hl : f.adds.length ≤ 64 ∧ f.gone.length ≤ 64 ∧ f.have_.length ≤ 64 ∧ f.held.length ≤ 64 := by
   simp only [Bool.not_eq_true', decide_eq_false_iff_not] at h1
   (repeat' split at h1) <;> omega
  obtain ⟨l1, l2, l3, l4⟩ := hl
  refine sG (fun h2 => ?_) (fun h2 => ?_) <;> simp only [h2] <;> simp
  ·refine CW.p (zez f.epoch 2147483647) Tryz.call66 9999 ?_
   simp
   refine sG (fun h3 => ?_) (fun h3 => ?_) <;> simp only [h3] <;> simp
   ·refine CW.p (zez f.nonce 2147483647) Tryz.call66 9999 ?_
    simp
    refine sG (fun h4 => ?_) (fun h4 => ?_) <;> simp only [h4] <;> simp
    ·refine CW.p (zez f.turn 2147483647) Tryz.call66 9999 ?_
     simp
     refine sG (fun h5 => ?_) (fun h5 => ?_) <;> simp only [h5] <;> simp
     ·refine CW.p (zez f.err 15) Tryz.call66 9999 ?_
      simp
      first | exact fin0 (by simp [zbs, l1, l2, l3, l4, h2, h3, h4, h5]) rfl | exact zaa (by simp [zbs, l1, l2, l3, l4, h2, h3, h4, h5])
     ·first | exact fin0 (by simp [zbs, h5]) rfl | exact zaa (by simp [zbs, h5])
    ·first | exact fin0 (by simp [zbs, h4]) rfl | exact zaa (by simp [zbs, h4])
   ·first | exact fin0 (by simp [zbs, h3]) rfl | exact zaa (by simp [zbs, h3])
  ·first | exact fin0 (by simp [zbs, h2]) rfl | exact zaa (by simp [zbs, h2])
 ·have hl : zbs f = false := by
   rw [Bool.eq_false_iff]
   intro hs
   obtain ⟨l1, l2, l3, l4, _⟩ := zcp hs
   simp only [Bool.not_eq_false', decide_eq_true_eq] at h1
   (repeat' split at h1) <;> omega
  first | exact fin0 (by simp [hl]) rfl | exact zaa (by simp [hl])
attribute [simp] Tryz.ntmps133 Tryz.results133
theorem qke (f : G.Frame) : Ct Tryz.prog 133 [st (zak f)] [] [] (st (zak (zif f))) [] := by
 refine Ct.B Tryz.func133 mixed 9999 400 ?_
 simp
 refine sB (fun h1 => ?_) (fun h1 => ?_) <;> simp only [h1] <;> simp <;> (try simp only [nT, nF, dT, dF] at h1)
 ·first | exact fin0 (by simp [zif, h1]) rfl | exact zaa (by simp [zif, h1])
 refine sB (fun h2 => ?_) (fun h2 => ?_) <;> simp only [h2] <;> simp <;> (try simp only [nT, nF, dT, dF] at h2)
 ·first | exact fin0 (by simp [zif, h1, h2]) rfl | exact zaa (by simp [zif, h1, h2])
 refine sB (fun h3 => ?_) (fun h3 => ?_) <;> simp only [h3] <;> simp <;> (try simp only [nT, nF, dT, dF] at h3)
 ·first | exact fin0 (by simp [zif, h1, h2, h3]) rfl | exact zaa (by simp [zif, h1, h2, h3])
 refine sB (fun h4 => ?_) (fun h4 => ?_) <;> simp only [h4] <;> simp <;> (try simp only [nT, nF, dT, dF] at h4)
 ·first | exact fin0 (by simp [zif, h1, h2, h3, h4]) rfl | exact zaa (by simp [zif, h1, h2, h3, h4])
 ·first | exact fin0 (by simp [zif, h1, h2, h3, h4]) rfl | exact zaa (by simp [zif, h1, h2, h3, h4])
attribute [simp] Tryz.ntmps68 Tryz.results68
theorem zu4 (f : G.Frame) (hf : OkFrame f) : Ct Tryz.prog 68 [st (zak f)] [] [] (bool (zeo f)) [] := by
 refine Ct.B Tryz.func68 mixed 9999 400 ?_
 simp
 refine CW.p (qke f) Tryz.call133 9999 ?_
 simp
 refine CW.p (qgl (zif f) { zFrame with type := f.type } (qib hf)) Tryz.call132 9999 ?_ (ha := by simp [zFrame])
 simp [zFrame]
 first | exact fin0 (by simp [zeo, zFrame]) rfl | exact zaa (by simp [zeo, zFrame])
attribute [simp] Tryz.ntmps199 Tryz.results199
theorem qz7 (k_ : Key) : Ct Tryz.prog 199 [st (keyC k_)] [] [] (bool (okK k_)) [] := by
 refine Ct.B Tryz.func199 mixed 9999 400 ?_
 simp
 refine CW.p (zez k_.kind 3) Tryz.call66 9999 ?_
 simp
 refine sG (fun h1 => ?_) (fun h1 => ?_) <;> simp only [h1] <;> simp
 ·refine CW.p (zfk k_.name) Tryz.call201 9999 ?_
  simp
  first | exact fin0 (by simp [okK, h1]) rfl | exact zaa (by simp [okK, h1])
 ·first | exact fin0 (by simp [okK, h1]) rfl | exact zaa (by simp [okK, h1])
attribute [simp] Tryz.ntmps135 Tryz.results135
theorem qic (k_ : Key) : Ct Tryz.prog 135 [st (keyC k_)] [] [] (bool (!okK k_)) [] := by
 refine Ct.B Tryz.func135 mixed 9999 400 ?_
 simp
 refine CW.p (qz7 k_) Tryz.call199 9999 ?_
 simp
 first | exact fin0 (by simp) rfl | exact zaa (by simp)
attribute [simp] Tryz.ntmps136 Tryz.results136
theorem qdg (m : G.Mark) : Ct Tryz.prog 136 [st (zdv m)] [] [] (bool (!okK m.k)) [] := by
 refine Ct.B Tryz.func136 mixed 9999 400 ?_
 simp
 refine CW.p (qic m.k) Tryz.call135 9999 ?_
 simp
 first | exact fin0 (by simp) rfl | exact zaa (by simp)
attribute [simp] Tryz.ntmps69 Tryz.results69
theorem zz8 (f : G.Frame) (hf : OkFrame f) : Ct Tryz.prog 69 [st (zak f)] [] [] (bool (zbw f)) [] := by
 refine Ct.B Tryz.func69 mixed 9999 400 ?_
 simp
 refine CW.p (zpy f.gone (fnD 135) (fun k => !okK k) (fun k _ => FnOk.of (qic k) Tryz.call135 rfl rfl) hf.gone) Tryz.call134 9999 ?_
 simp
 rw [zj9, Bool.not_not]
 refine sG (fun h1 => ?_) (fun h1 => ?_) <;> simp only [h1] <;> simp
 ·refine CW.p (zpy f.held (fnD 135) (fun k => !okK k) (fun k _ => FnOk.of (qic k) Tryz.call135 rfl rfl) hf.held) Tryz.call134 9999 ?_
  simp
  rw [zj9, Bool.not_not]
  refine sG (fun h2 => ?_) (fun h2 => ?_) <;> simp only [h2] <;> simp
  ·refine CW.p (zwi f.have_ (fnD 136) (fun m => !okK m.k) (fun m _ => FnOk.of (qdg m) Tryz.call136 rfl rfl) hf.have_) Tryz.call130 9999 ?_
   simp
   rw [zj9, Bool.not_not]
   first | exact fin0 (by simp [zbw, h1, h2]) rfl | exact zaa (by simp [zbw, h1, h2])
  ·first | exact fin0 (by simp [zbw, h1, h2]) rfl | exact zaa (by simp [zbw, h1, h2])
 ·first | exact fin0 (by simp [zbw, h1]) rfl | exact zaa (by simp [zbw, h1])
attribute [simp] Tryz.ntmps70 Tryz.results70
theorem qfo (f : G.Frame) (hf : OkFrame f) : Ct Tryz.prog 70 [st (zak f)] [] [] (int (zb9 f.adds)) [] := by
 refine Ct.B Tryz.func70 mixed 9999 400 ?_
 simp
 have hl := hf.adds.1
 refine LoopW.inv mixed (Plain.retC _ _ _ _ _) rfl (ι := {k : Nat // k ≤ (f.adds).length ∧ (f.adds.take k).all (fun r => decide (zbl r = 0)) = true}) (fun k => [(7, lst (f.adds.map resC)), (8, int f.adds.length), (9, int k.1)]) (fun k => []) 64 (fun k => (f.adds).length - k.1) ⟨0, by omega, by simp⟩ [] (by constructor <;> simp) ?_
 rintro ⟨k, hk1, hi⟩ B hB
 refine CW.run 9999 400 rfl ?_
 simp
 refine sB (fun h => ?_) (fun h => ?_)
 ·have hk : k < (f.adds).length := by simpa using h
  obtain ⟨x, hx, hr, hm, ht, hd⟩ := inL hk
  have hw := wr (k := k) (by omega)
  simp only [h]
  simp [hr, hw]
  refine CW.p (zy9 x) Tryz.call137 9999 ?_
  simp
  refine sB (fun h1 => ?_) (fun h1 => ?_) <;> simp only [h1] <;> simp <;> (try simp only [nT, nF, dT, dF] at h1)
  ·have e := zpi hi hr h1
   first | exact fin0 (by simp [e]) rfl | exact zaa (by simp [e])
  ·refine hB _ ⟨k + 1, by omega, by simp [ht, hi, h1]⟩ [] ?_ (by simp; omega)
   constructor <;> simp [hw, ht, h1]
 ·have hkl : k = (f.adds).length := by simp at h; omega
  subst hkl
  simp only [h]
  simp [List.take_length, List.drop_length]
  rw [List.take_length] at hi
  have e := zn1 hi
  first | exact fin0 (by simp [e]) rfl | exact zaa (by simp [e])
attribute [simp] Tryz.ntmps139 Tryz.results139
theorem qhk (f : G.Frame) (r : Res) : Ct Tryz.prog 139 [st (resC r), .d (.pro (zak f))] [] [] (bool (!decide (r.kind = f.kind))) [] := by
 refine Ct.B Tryz.func139 mixed 9999 400 ?_
 simp
 first | exact fin0 (by simp) rfl | exact zaa (by simp)
attribute [simp] Tryz.ntmps140 Tryz.results140
theorem qhj (f : G.Frame) (k_ : Key) : Ct Tryz.prog 140 [st (keyC k_), .d (.pro (zak f))] [] [] (bool (!decide (k_.kind = f.kind))) [] := by
 refine Ct.B Tryz.func140 mixed 9999 400 ?_
 simp
 first | exact fin0 (by simp) rfl | exact zaa (by simp)
attribute [simp] Tryz.ntmps71 Tryz.results71
theorem qfa (f : G.Frame) (hf : OkFrame f) : Ct Tryz.prog 71 [st (zak f)] [] [] (bool (zi3 f)) [] := by
 refine Ct.B Tryz.func71 mixed 1 400 ?_
 simp
 refine CW.s (tm := [(1, .d (.pro (zak f)))]) (mm := []) (nx := 65) [] [64] (by constructor <;> simp) ?_
 refine CW.run 9999 400 rfl ?_
 simp
 refine CW.p (qb3 f.adds (.fn (.func 139) [] [.pro (zak f)]) (fun r => !decide (r.kind = f.kind)) (fun r _ => FnOk.clo (by exact qhk f r) Tryz.call139 rfl rfl) hf.adds.len) Tryz.call138 9999 ?_
 simp
 rw [zj9, Bool.not_not]
 refine sG (fun h1 => ?_) (fun h1 => ?_) <;> simp only [h1] <;> simp
 ·refine CW.p (zpy f.gone (.fn (.func 140) [] [.pro (zak f)]) (fun k => !decide (k.kind = f.kind)) (fun k _ => FnOk.clo (by exact qhj f k) Tryz.call140 rfl rfl) hf.gone) Tryz.call134 9999 ?_
  simp
  rw [zj9, Bool.not_not]
  have e : zi3 f = f.gone.all fun k => decide (k.kind = f.kind) := by rw [zi3, h1, Bool.true_and]
  rw [← e]
  first | exact fin0 (by simp) rfl | exact zaa (by simp)
 ·skip
  have e : zi3 f = false := by rw [zi3, h1, Bool.false_and]
  first | exact fin0 (by simp [e]) rfl | exact zaa (by simp [e])
attribute [simp] Tryz.ntmps22 Tryz.results22
theorem zpg (f : G.Frame) (hf : OkFrame f) : Ct Tryz.prog 22 [st (zak f)] [] [] (int (za6 f)) [] := by
 refine Ct.B Tryz.func22 mixed 9999 400 ?_
 simp
 refine CW.p (zez f.type 3) Tryz.call66 9999 ?_
 simp
 refine sG (fun h1 => ?_) (fun h1 => ?_) <;> simp only [h1] <;> simp
 ·refine CW.p (zez f.kind 3) Tryz.call66 9999 ?_
  simp
  refine CW.p (zdo (rngB f.kind 3) 4) Tryz.call65 9999 ?_
  simp
  refine CW.p (zy4 f hf) Tryz.call67 9999 ?_
  simp
  refine CW.p (zdo (zbs f) 3) Tryz.call65 9999 ?_
  simp
  refine CW.p (zu4 f hf) Tryz.call68 9999 ?_
  simp
  refine CW.p (zdo (zeo f) 2) Tryz.call65 9999 ?_
  simp
  refine CW.p (zz8 f hf) Tryz.call69 9999 ?_
  simp
  refine CW.p (zdo (zbw f) 5) Tryz.call65 9999 ?_
  simp
  refine CW.p (qfo f hf) Tryz.call70 9999 ?_
  simp
  refine CW.p (qfa f hf) Tryz.call71 9999 ?_
  simp
  refine CW.p (zdo (zi3 f) 2) Tryz.call65 9999 ?_
  simp
  refine CW.g [1664] [] (qbg [if rngB f.kind 3 = true then 0 else 4, if zbs f = true then 0 else 3, if zeo f = true then 0 else 2, if zbw f = true then 0 else 5, zb9 f.adds, if zi3 f = true then 0 else 2] (by simp)) Tryz.call64 9999 ?_
  simp
  have e := zuh f
  rw [h1, Bool.true_and] at e
  rw [e]
  first | exact fin0 (by simp) rfl | exact zaa (by simp)
 ·skip
  refine CW.p (zdo false 4) Tryz.call65 9999 ?_
  simp
  refine CW.p (zy4 f hf) Tryz.call67 9999 ?_
  simp
  refine CW.p (zdo (zbs f) 3) Tryz.call65 9999 ?_
  simp
  refine CW.p (zu4 f hf) Tryz.call68 9999 ?_
  simp
  refine CW.p (zdo (zeo f) 2) Tryz.call65 9999 ?_
  simp
  refine CW.p (zz8 f hf) Tryz.call69 9999 ?_
  simp
  refine CW.p (zdo (zbw f) 5) Tryz.call65 9999 ?_
  simp
  refine CW.p (qfo f hf) Tryz.call70 9999 ?_
  simp
  refine CW.p (qfa f hf) Tryz.call71 9999 ?_
  simp
  refine CW.p (zdo (zi3 f) 2) Tryz.call65 9999 ?_
  simp
  refine CW.g [1664] [] (qbg [4, if zbs f = true then 0 else 3, if zeo f = true then 0 else 2, if zbw f = true then 0 else 5, zb9 f.adds, if zi3 f = true then 0 else 2] (by simp)) Tryz.call64 9999 ?_
  simp
  have e : za6 f = 4 := by simp [za6, h1]
  first | exact fin0 (by simp [e]) rfl | exact zaa (by simp [e])
end Go.Proofs.YtbmnaehodmgibaaGreatDoor
end
section
namespace Go.Proofs.YtbmnaehodmgibaaGreatDoor
open Go.AI Go.G
set_option maxRecDepth 20000
attribute [simp] Tryz.ntmps20 Tryz.results20
theorem ziu (e m : Int) : Ct Tryz.prog 20 [int e, int m] [] [] (st (zcb (zan e m))) [] := by
 refine Ct.B Tryz.func20 mixed 9999 400 ?_
 simp
 refine CW.p (zog m) Tryz.call60 9999 ?_
 simp
 have h := qbk e
 first | exact fin0 (by simp [zan, h, zView, zFrame]) rfl | exact zaa (by simp [zan, h, zView, zFrame])
attribute [simp] Tryz.ntmps119 Tryz.results119
theorem zti (f : G.Frame) (hf : OkFrame f) : Ct Tryz.prog 119 [st (zak f)] [] [] (bool (decide (za6 f = 0))) [] := by
 refine Ct.B Tryz.func119 mixed 9999 400 ?_
 simp
 refine CW.p (zpg f hf) Tryz.call22 9999 ?_
 simp
 first | exact fin0 (by simp) rfl | exact zaa (by simp)
attribute [simp] Tryz.ntmps52 Tryz.results52
theorem qiy (v : View) (hv : v.held.length ≤ 9223372036854775807) (hl : v.have_.length ≤ 1000000) : Ct Tryz.prog 52 [st (zjm v)] [] [] (bool (zqm v)) [] := by
 refine Ct.B Tryz.func52 mixed 9999 400 ?_
 simp
 refine CW.p (qaj v.have_ hl) Tryz.call101 9999 ?_
 simp
 refine CW.p (zti (zcz v) (qa3 v (by omega))) Tryz.call119 9999 ?_ (ha := by simp [zcz])
 simp [zcz]
 refine sG (fun h1 => ?_) (fun h1 => ?_) <;> simp only [h1] <;> simp
 ·refine CW.p (zti (zdz v) (zsl hv)) Tryz.call119 9999 ?_ (ha := by simp [zdz])
  simp [zdz]
  first | exact fin0 (by simp [zqm, h1, zcz, zdz]) rfl | exact zaa (by simp [zqm, h1, zcz, zdz])
 ·first | exact fin0 (by simp [zqm, h1, zcz]) rfl | exact zaa (by simp [zqm, h1, zcz])
attribute [simp] Tryz.ntmps53 Tryz.results53
theorem qfr (s : Sess) (hs : OkFrame s.v.push) : Ct Tryz.prog 53 [st (zcb s)] [] [] (bool (zbd s)) [] := by
 refine Ct.B Tryz.func53 mixed 9999 400 ?_
 simp
 refine sG (fun h1 => ?_) (fun h1 => ?_) <;> simp only [h1] <;> simp
 ·have h1' : s.greeted = false := by simpa using h1
  first | exact fin0 (by simp [zbd, h1']) rfl | exact zaa (by simp [zbd, h1'])
 have h1' : s.greeted = true := by simpa using h1
 refine CW.p (zti s.v.push hs) Tryz.call119 9999 ?_
 simp
 refine sG (fun h2 => ?_) (fun h2 => ?_) <;> simp only [h2] <;> simp
 ·have h2' : ¬ za6 s.v.push = 0 := by simpa using h2
  first | exact fin0 (by simp [zbd, h2']) rfl | exact zaa (by simp [zbd, h2'])
 have h2' : za6 s.v.push = 0 := by simpa using h2
 refine sG (fun h3 => ?_) (fun h3 => ?_) <;> simp only [h3] <;> simp
 ·have h3' : ¬ s.v.push.type = 1 := by simpa using h3
  first | exact fin0 (by simp [zbd, h3']) rfl | exact zaa (by simp [zbd, h3'])
 have h3' : s.v.push.type = 1 := by simpa using h3
 refine sB (fun h4 => ?_) (fun h4 => ?_) <;> simp only [h4] <;> simp
 ·have h4' : ¬ s.v.push.epoch = s.epoch := by simpa using h4
  first | exact fin0 (by simp [zbd, h4']) rfl | exact zaa (by simp [zbd, h4'])
 have h4' : s.v.push.epoch = s.epoch := by simpa using h4
 rcases zq0 h2' with hk | hk | hk | hk
 ·simp [hk]
  refine sG (fun h5 => ?_) (fun h5 => ?_) <;> simp only [h5] <;> simp [hk]
  ·first | exact fin0 (by simp [zbd, h1', h2', h3', h4', hk, h5, Nonce.Ou.open', Nonce.Ou.last]) rfl | exact zaa (by simp [zbd, h1', h2', h3', h4', hk, h5, Nonce.Ou.open', Nonce.Ou.last])
  ·first | exact fin0 (by simp [zbd, h1', h2', h3', h4', hk, h5, Nonce.Ou.open', Nonce.Ou.last]) rfl | exact zaa (by simp [zbd, h1', h2', h3', h4', hk, h5, Nonce.Ou.open', Nonce.Ou.last])
 ·simp [hk]
  refine sG (fun h5 => ?_) (fun h5 => ?_) <;> simp only [h5] <;> simp [hk]
  ·first | exact fin0 (by simp [zbd, h1', h2', h3', h4', hk, h5, Nonce.Ou.open', Nonce.Ou.last]) rfl | exact zaa (by simp [zbd, h1', h2', h3', h4', hk, h5, Nonce.Ou.open', Nonce.Ou.last])
  ·first | exact fin0 (by simp [zbd, h1', h2', h3', h4', hk, h5, Nonce.Ou.open', Nonce.Ou.last]) rfl | exact zaa (by simp [zbd, h1', h2', h3', h4', hk, h5, Nonce.Ou.open', Nonce.Ou.last])
 ·simp [hk]
  refine sG (fun h5 => ?_) (fun h5 => ?_) <;> simp only [h5] <;> simp [hk]
  ·first | exact fin0 (by simp [zbd, h1', h2', h3', h4', hk, h5, Nonce.Ou.open', Nonce.Ou.last]) rfl | exact zaa (by simp [zbd, h1', h2', h3', h4', hk, h5, Nonce.Ou.open', Nonce.Ou.last])
  ·first | exact fin0 (by simp [zbd, h1', h2', h3', h4', hk, h5, Nonce.Ou.open', Nonce.Ou.last]) rfl | exact zaa (by simp [zbd, h1', h2', h3', h4', hk, h5, Nonce.Ou.open', Nonce.Ou.last])
 ·simp [hk]
  refine sG (fun h5 => ?_) (fun h5 => ?_) <;> simp only [h5] <;> simp [hk]
  ·first | exact fin0 (by simp [zbd, h1', h2', h3', h4', hk, h5, Nonce.Ou.open', Nonce.Ou.last]) rfl | exact zaa (by simp [zbd, h1', h2', h3', h4', hk, h5, Nonce.Ou.open', Nonce.Ou.last])
  ·first | exact fin0 (by simp [zbd, h1', h2', h3', h4', hk, h5, Nonce.Ou.open', Nonce.Ou.last]) rfl | exact zaa (by simp [zbd, h1', h2', h3', h4', hk, h5, Nonce.Ou.open', Nonce.Ou.last])
attribute [simp] Tryz.ntmps12 Tryz.results12
theorem zzb (s : Sess) (hd : s.v.held.length ≤ 9223372036854775807) (hs : OkFrame s.v.push) (hl : s.v.have_.length ≤ 1000000) : Ct Tryz.prog 12 [st (zcb s)] [] [] (bool (zba s)) [] := by
 refine Ct.B Tryz.func12 mixed 9999 400 ?_
 simp
 refine sG (fun h1 => ?_) (fun h1 => ?_) <;> simp only [h1] <;> simp
 ·skip
  refine sG (fun h2 => ?_) (fun h2 => ?_) <;> simp only [h2] <;> simp
  ·skip
   refine sG (fun h3 => ?_) (fun h3 => ?_) <;> simp only [h3] <;> simp
   ·skip
    refine sG (fun h4 => ?_) (fun h4 => ?_) <;> simp only [h4] <;> simp
    ·skip
     refine sG (fun h5 => ?_) (fun h5 => ?_) <;> simp only [h5] <;> simp
     ·skip
      refine CW.p (qfg s.out) Tryz.call51 9999 ?_
      simp
      refine sG (fun h6 => ?_) (fun h6 => ?_) <;> simp only [h6] <;> simp
      ·skip
       refine CW.p (qiy s.v hd hl) Tryz.call52 9999 ?_
       simp
       refine sG (fun h7 => ?_) (fun h7 => ?_) <;> simp only [h7] <;> simp
       ·skip
        refine sG (fun h8 => ?_) (fun h8 => ?_) <;> simp only [h8] <;> simp
        ·first | exact fin0 (by simp [zba, zcq, rngB, h1, h2, h3, h4, h5, h6, h7, h8]) rfl | exact zaa (by simp [zba, zcq, rngB, h1, h2, h3, h4, h5, h6, h7, h8])
        ·refine CW.p (qfr s hs) Tryz.call53 9999 ?_
         simp
         first | exact fin0 (by simp [zba, zcq, rngB, h1, h2, h3, h4, h5, h6, h7, h8]) rfl | exact zaa (by simp [zba, zcq, rngB, h1, h2, h3, h4, h5, h6, h7, h8])
       ·first | exact fin0 (by simp [zba, h7]) rfl | exact zaa (by simp [zba, h7])
      ·first | exact fin0 (by simp [zba, h6]) rfl | exact zaa (by simp [zba, h6])
     ·first | exact fin0 (by simp [zba, zcq, rngB, h5]) rfl | exact zaa (by simp [zba, zcq, rngB, h5])
    ·first | exact fin0 (by simp [zba, zcq, rngB, h4]) rfl | exact zaa (by simp [zba, zcq, rngB, h4])
   ·first | exact fin0 (by simp [zba, zcq, rngB, h3]) rfl | exact zaa (by simp [zba, zcq, rngB, h3])
  ·first | exact fin0 (by simp [zba, zcq, rngB, h2]) rfl | exact zaa (by simp [zba, zcq, rngB, h2])
 ·first | exact fin0 (by simp [zba, zcq, rngB, h1]) rfl | exact zaa (by simp [zba, zcq, rngB, h1])
theorem zzc (s : Sess) (hs : OkSess s) (hl : s.v.have_.length ≤ 1000000) : Ct Tryz.prog 12 [st (zcb s)] [] [] (bool (zba s)) [] := zzb s hs.v.held hs.v.push hl
attribute [simp] Tryz.ntmps55 Tryz.results55
theorem zu0 (s : Sess) (hd : s.v.held.length ≤ 9223372036854775807) (hs : OkFrame s.v.push) (hl : s.v.have_.length ≤ 1000000) : Ct Tryz.prog 55 [st (zcb s)] [] [] (st (zcb (zbh s))) [] := by
 refine Ct.B Tryz.func55 mixed 9999 400 ?_
 simp
 refine CW.p (zzb s hd hs hl) Tryz.call12 9999 ?_
 simp
 refine sB (fun h1 => ?_) (fun h1 => ?_) <;> simp only [h1] <;> simp
 ·have h1' : zba s = false := by simpa using h1
  refine CW.p (ziu s.epoch s.out.m) Tryz.call20 9999 ?_
  simp
  first | exact fin0 (by simp [zbh, h1']) rfl | exact zaa (by simp [zbh, h1'])
 ·have h1' : zba s = true := by simpa using h1
  first | exact fin0 (by simp [zbh, h1']) rfl | exact zaa (by simp [zbh, h1'])
theorem zoj (s : Sess) (hs : OkSess s) (hl : s.v.have_.length ≤ 1000000) : Ct Tryz.prog 55 [st (zcb s)] [] [] (st (zcb (zbh s))) [] := zu0 s hs.v.held hs.v.push hl
attribute [simp] Tryz.ntmps120 Tryz.results120
theorem qhs (s : Sess) (p : Store) (f : G.Frame) (hp : OkStore p) (hl : f.have_.length ≤ 1000) : Ct Tryz.prog 120 [st (zcb s), st (za5 p), st (zak f)] [] [] (.tup [st (zcb (zgj s p f).1), int (zgj s p f).2]) [] := by
 refine Ct.B Tryz.func120 mixed 9999 400 ?_
 simp
 refine sB (fun h1 => ?_) (fun h1 => ?_) <;> simp only [h1] <;> simp
 ·first | exact fin0 (by simp [zgj, h1]) rfl | exact zaa (by simp [zgj, h1])
 refine CW.p (qhh p f.have_ hp hl) Tryz.call187 9999 ?_
 simp
 have hk := zmi p f.have_
 refine sB (fun h2 => ?_) (fun h2 => ?_) <;> simp only [h2] <;> simp <;> (try simp only [nT, nF, dT, dF] at h2)
 ·refine CW.cc [] (qas (zci p f.have_) (by omega)) Tryz.call165 9999 ?_
  simp
  first | exact fin0 (by simp [zgj, zg1, h1, h2]) rfl | exact zaa (by simp [zgj, zg1, h1, h2])
 ·first | exact fin0 (by simp [zgj, zg1, h1, h2]) rfl | exact zaa (by simp [zgj, zg1, h1, h2])
attribute [simp] Tryz.ntmps121 Tryz.results121
theorem qi4 (s : Sess) (p : Store) (f : G.Frame) : Ct Tryz.prog 121 [st (zcb s), st (za5 p), st (zak f)] [] [] (.tup [st (zcb s), int 2]) [] := by
 refine Ct.B Tryz.func121 mixed 9999 400 ?_
 simp
 first | exact fin0 (by simp) rfl | exact zaa (by simp)
attribute [simp] Tryz.ntmps123 Tryz.results123
theorem qhx (s : Sess) (p : Store) (f : G.Frame) : Ct Tryz.prog 123 [st (zcb s), st (za5 p), st (zak f)] [] [] (.tup [st (zcb (zkr s f).1), int (zkr s f).2]) [] := by
 refine Ct.B Tryz.func123 mixed 9999 400 ?_
 simp
 refine CW.p (zuk s.v f.turn f.held) Tryz.call190 9999 ?_
 simp
 first | exact fin0 (by simp [zkr]) rfl | exact zaa (by simp [zkr])
attribute [simp] Tryz.ntmps122 Tryz.results122
theorem xai (s : Sess) (p : Store) (f : G.Frame) (hl : s.v.open_ = true → s.v.have_.length + s.v.push.adds.length ≤ 1000000 ∧ s.v.push.gone.length ≤ 9223372036854775807) (hp : p.hist.length ≤ 1000000) : Ct Tryz.prog 122 [st (zcb s), st (za5 p), st (zak f)] [] [] (.tup [st (zcb (ackH s p f).1), int (ackH s p f).2]) [] := by
 refine Ct.B Tryz.func122 mixed 9999 400 ?_
 simp
 refine CW.p (qg9 s.out f.kind f.nonce) Tryz.call188 9999 ?_
 simp
 refine sB (fun h1 => ?_) (fun h1 => ?_) <;> simp only [h1] <;> simp <;> (try simp only [nT, nF, dT, dF] at h1)
 ·first | exact fin0 (by simp [ackH, h1]) rfl | exact zaa (by simp [ackH, h1])
 refine sB (fun h2 => ?_) (fun h2 => ?_) <;> simp only [h2] <;> simp
 ·have h2' : s.v.open_ = false := by simpa using h2
  first | exact fin0 (by simp [ackH, h1, h2']) rfl | exact zaa (by simp [ackH, h1, h2'])
 have h2' : s.v.open_ = true := by simpa using h2
 refine CW.p (zyj s.v f (hl h2').1 (hl h2').2) Tryz.call189 9999 ?_
 simp
 refine sB (fun h3 => ?_) (fun h3 => ?_) <;> simp only [h3] <;> simp
 ·first | exact fin0 (by simp [ackH, h1, h2', h3]) rfl | exact zaa (by simp [ackH, h1, h2', h3])
 refine sB (fun h4 => ?_) (fun h4 => ?_) <;> simp only [h4] <;> simp <;> (try simp only [nT, nF, dT, dF] at h4)
 ·have h4' : 64 < (ansV s.v f).have_.length := by omega
  first | exact fin0 (by simp [ackH, h1, h2', h3, h4']) rfl | exact zaa (by simp [ackH, h1, h2', h3, h4'])
 have h4' : ¬ 64 < (ansV s.v f).have_.length := by omega
 refine CW.p (qdb p hp) Tryz.call34 9999 ?_
 simp
 first | exact fin0 (by simp [ackH, h1, h2', h3, h4', nowI]) rfl | exact zaa (by simp [ackH, h1, h2', h3, h4', nowI])
attribute [simp] Tryz.ntmps56 Tryz.results56
theorem qh9 : Ct Tryz.prog 56 [int 0] [] [] (.d (fnD 120)) [] := by
 refine Ct.B Tryz.func56 mixed 9999 400 ?_
 simp
 first | exact fin0 (by simp) rfl | exact zaa (by simp)
theorem qh8 : Ct Tryz.prog 56 [int 1] [] [] (.d (fnD 121)) [] := by
 refine Ct.B Tryz.func56 mixed 9999 400 ?_
 simp
 first | exact fin0 (by simp) rfl | exact zaa (by simp)
theorem qh7 : Ct Tryz.prog 56 [int 2] [] [] (.d (fnD 122)) [] := by
 refine Ct.B Tryz.func56 mixed 9999 400 ?_
 simp
 first | exact fin0 (by simp) rfl | exact zaa (by simp)
theorem qh6 : Ct Tryz.prog 56 [int 3] [] [] (.d (fnD 123)) [] := by
 refine Ct.B Tryz.func56 mixed 9999 400 ?_
 simp
 first | exact fin0 (by simp) rfl | exact zaa (by simp)
attribute [simp] Tryz.ntmps14 Tryz.results14
theorem zfp (s : Sess) (p : Store) (f : G.Frame) (hd : s.v.held.length ≤ 9223372036854775807) (hs : OkFrame s.v.push) (hl : s.v.have_.length ≤ 1000000) (hf : OkFrame f) (hp : OkStore p) (hpl : p.hist.length ≤ 1000000) : Ct Tryz.prog 14 [st (zcb s), st (za5 p), st (zak f)] [] [] (.tup [st (zcb (handle s p f).1), int (handle s p f).2]) [] := by
 refine Ct.B Tryz.func14 mixed 9999 400 ?_
 simp
 refine CW.p (zu0 s hd hs hl) Tryz.call55 9999 ?_
 simp
 have hq0 := zlo s
 have hh : handle s p f = zbq (zbh s) p f := rfl
 rw [hh]
 clear hh
 generalize zbh s = q at hq0 ⊢
 have S := saneS_iff.1 hq0
 refine CW.p (zpg f hf) Tryz.call22 9999 ?_
 simp
 refine sB (fun h1 => ?_) (fun h1 => ?_) <;> simp only [h1] <;> simp <;> (try simp only [nT, nF, dT, dF] at h1)
 ·first | exact fin0 (by simp [zbq, h1]) rfl | exact zaa (by simp [zbq, h1])
 refine sB (fun h2 => ?_) (fun h2 => ?_) <;> simp only [h2] <;> simp <;> (try simp only [nT, nF, dT, dF] at h2)
 ·first | exact fin0 (by simp [zbq, h1, h2]) rfl | exact zaa (by simp [zbq, h1, h2])
 have F := frameE_zero.1 h1
 have L := zcp F.small
 have hS := S.hl
 rcases zzp h1 with h3 | h3 | h3 | h3
 ·refine CW.p qh9 Tryz.call56 9999 ?_ (ha := by simp [h3])
  simp [h3]
  refine CW.ff (FnOk.of (qhs q p f hp (by omega)) Tryz.call120 rfl rfl) rfl rfl rfl 9999 ?_ (ha := by simp [h3])
  simp [h3]
  refine ⟨by decide +kernel, ?_⟩
  first | exact fin0 (by simp [zbq, h1, h2, h3]) rfl | exact zaa (by simp [zbq, h1, h2, h3])
 ·refine CW.p qh8 Tryz.call56 9999 ?_ (ha := by simp [h3])
  simp [h3]
  refine CW.ff (FnOk.of (qi4 q p f) Tryz.call121 rfl rfl) rfl rfl rfl 9999 ?_ (ha := by simp [h3])
  simp [h3]
  refine ⟨by decide +kernel, ?_⟩
  first | exact fin0 (by simp [zbq, h1, h2, h3]) rfl | exact zaa (by simp [zbq, h1, h2, h3])
 ·refine CW.p qh7 Tryz.call56 9999 ?_ (ha := by simp [h3])
  simp [h3]
  refine CW.ff (FnOk.of (xai q p f (qjb S) hpl) Tryz.call122 rfl rfl) rfl rfl rfl 9999 ?_ (ha := by simp [h3])
  simp [h3]
  refine ⟨by decide +kernel, ?_⟩
  first | exact fin0 (by simp [zbq, h1, h2, h3]) rfl | exact zaa (by simp [zbq, h1, h2, h3])
 ·refine CW.p qh6 Tryz.call56 9999 ?_ (ha := by simp [h3])
  simp [h3]
  refine CW.ff (FnOk.of (qhx q p f) Tryz.call123 rfl rfl) rfl rfl rfl 9999 ?_ (ha := by simp [h3])
  simp [h3]
  refine ⟨by decide +kernel, ?_⟩
  first | exact fin0 (by simp [zbq, h1, h2, h3]) rfl | exact zaa (by simp [zbq, h1, h2, h3])
theorem qd2 (s : Sess) (p : Store) (f : G.Frame) (hs : OkSess s) (hl : s.v.have_.length ≤ 1000000) (hf : OkFrame f) (hp : OkStore p) (hpl : p.hist.length ≤ 1000000) : Ct Tryz.prog 14 [st (zcb s), st (za5 p), st (zak f)] [] [] (.tup [st (zcb (handle s p f).1), int (handle s p f).2]) [] := zfp s p f hs.v.held hs.v.push hl hf hp hpl
end Go.Proofs.YtbmnaehodmgibaaGreatDoor
end
