/-
  LAYERS 5, 6, 9: the walks of what is reached, of differences, and of policies.
-/
import Derived.Test.YtbmnaehodmgibaaGreatDoorWb
import Derived.Test.YtbmnaehodmgibaaGreatDoorWd
import Derived.Test.YtbmnaehodmgibaaGreatDoorPm
import Derived.Test.YtbmnaehodmgibaaGreatDoorFd
set_option linter.unusedSimpArgs false
set_option linter.unusedVariables false
section
namespace Go.Proofs.YtbmnaehodmgibaaGreatDoor
open Go.AI Go.G
set_option maxRecDepth 20000
theorem w_ne (a b : Weight) : (!decide (a.cluster = b.cluster) || !decide (a.w = b.w)) = !decide (a = b) := by
 obtain ⟨p, q⟩ := a; obtain ⟨u, v⟩ := b
 rw [Bool.eq_iff_iff]; simp [Weight.mk.injEq]
theorem qhe (a b : G.Mark) : (!decide (a.k.kind = b.k.kind) || (!decide (a.k.name = b.k.name) || !decide (a.ver = b.ver))) = !decide (a = b) := by
 rw [← qak]; simp [Bool.not_and, Bool.or_assoc]
attribute [simp] Tryz.ntmps243 Tryz.results243
theorem qka (a b : List Int) (hl : a.length ≤ 9223372036854775807) : Ct Tryz.prog 243 [lst (a.map intC), lst (b.map intC)] [] [] (bool (decide (a = b))) [] := by
 refine Ct.B Tryz.func243 mixed 9999 400 ?_
 simp
 refine sB (fun h1 => ?_) (fun h1 => ?_) <;> simp only [h1] <;> simp <;> (try simp only [nT, nF, dT, dF] at h1)
 ·have e : ¬ a = b := fun e => h1 (by rw [e])
  first | exact fin0 (by simp [e]) rfl | exact zaa (by simp [e])
 have hab : a.length = b.length := by omega
 refine LoopW.inv mixed (Plain.retC _ _ _ _ _) rfl (ι := {k : Nat // k ≤ (a).length ∧ a.take k = b.take k}) (fun k => [(0, lst (a.map intC)), (1, lst (b.map intC)), (11, lst (a.map intC)), (12, int a.length), (13, int k.1)]) (fun k => []) 64 (fun k => (a).length - k.1) ⟨0, by omega, by simp⟩ [] (by constructor <;> simp) ?_
 rintro ⟨k, hk1, hi⟩ B hB
 refine CW.run 9999 400 rfl ?_
 simp
 refine sB (fun h => ?_) (fun h => ?_)
 ·have hk : k < (a).length := by simpa using h
  obtain ⟨x, hx, hr, hm, ht, hd⟩ := inL hk
  have hw := wr (k := k) (by omega)
  simp only [h]
  simp [hr, hw]
  have hrb : b[k]? = some b[k] := List.getElem?_eq_getElem (by omega)
  have htb : b.take (k + 1) = b.take k ++ [b[k]] := by rw [List.take_add_one, hrb]; rfl
  have hne : ¬ x = b[k] → ¬ a = b := by
   intro h2 e; subst e; rw [hr] at hrb; exact h2 (Option.some.inj hrb)
  generalize b[k] = y at hrb htb hne
  simp [hrb]
  refine ⟨by decide +kernel, ?_⟩
  refine sB (fun h2 => ?_) (fun h2 => ?_) <;> simp only [h2] <;> simp [hr, hrb] <;> (try simp only [nT, nF, dT, dF] at h2)
  ·have e := hne h2
   first | exact fin0 (by simp [e]) rfl | exact zaa (by simp [e])
  ·refine hB _ ⟨k + 1, by omega, by rw [ht, htb, hi, h2]⟩ [] ?_ (by simp; omega)
   constructor <;> simp [hw]
 ·have hkl : k = (a).length := by simp at h; omega
  subst hkl
  simp only [h]
  simp [List.take_length, List.drop_length]
  have e : a = b := by
   rw [List.take_length, hab, List.take_length] at hi; exact hi
  first | exact fin0 (by simp [e]) rfl | exact zaa (by simp [e])
attribute [simp] Tryz.ntmps242 Tryz.results242
theorem eq_w (a b : List Weight) (hl : a.length ≤ 9223372036854775807) : Ct Tryz.prog 242 [lst (a.map wC), lst (b.map wC)] [] [] (bool (decide (a = b))) [] := by
 refine Ct.B Tryz.func242 mixed 9999 400 ?_
 simp
 refine sB (fun h1 => ?_) (fun h1 => ?_) <;> simp only [h1] <;> simp <;> (try simp only [nT, nF, dT, dF] at h1)
 ·have e : ¬ a = b := fun e => h1 (by rw [e])
  first | exact fin0 (by simp [e]) rfl | exact zaa (by simp [e])
 have hab : a.length = b.length := by omega
 refine LoopW.inv mixed (Plain.retC _ _ _ _ _) rfl (ι := {k : Nat // k ≤ (a).length ∧ a.take k = b.take k}) (fun k => [(0, lst (a.map wC)), (1, lst (b.map wC)), (11, lst (a.map wC)), (12, int a.length), (13, int k.1)]) (fun k => []) 64 (fun k => (a).length - k.1) ⟨0, by omega, by simp⟩ [] (by constructor <;> simp) ?_
 rintro ⟨k, hk1, hi⟩ B hB
 refine CW.run 9999 400 rfl ?_
 simp
 refine sB (fun h => ?_) (fun h => ?_)
 ·have hk : k < (a).length := by simpa using h
  obtain ⟨x, hx, hr, hm, ht, hd⟩ := inL hk
  have hw := wr (k := k) (by omega)
  simp only [h]
  simp [hr, hw]
  have hrb : b[k]? = some b[k] := List.getElem?_eq_getElem (by omega)
  have htb : b.take (k + 1) = b.take k ++ [b[k]] := by rw [List.take_add_one, hrb]; rfl
  have hne : ¬ x = b[k] → ¬ a = b := by
   intro h2 e; subst e; rw [hr] at hrb; exact h2 (Option.some.inj hrb)
  generalize b[k] = y at hrb htb hne
  simp [hrb]
  rw [w_ne]
  refine ⟨by decide +kernel, ?_⟩
  refine sB (fun h2 => ?_) (fun h2 => ?_) <;> simp only [h2] <;> simp [hr, hrb] <;> (try simp only [nT, nF, dT, dF] at h2)
  ·have e := hne h2
   first | exact fin0 (by simp [e]) rfl | exact zaa (by simp [e])
  ·refine hB _ ⟨k + 1, by omega, by rw [ht, htb, hi, h2]⟩ [] ?_ (by simp; omega)
   constructor <;> simp [hw]
 ·have hkl : k = (a).length := by simp at h; omega
  subst hkl
  simp only [h]
  simp [List.take_length, List.drop_length]
  have e : a = b := by
   rw [List.take_length, hab, List.take_length] at hi; exact hi
  first | exact fin0 (by simp [e]) rfl | exact zaa (by simp [e])
attribute [simp] Tryz.ntmps196 Tryz.results196
theorem qfh (a b : List Key) (hl : a.length ≤ 9223372036854775807) : Ct Tryz.prog 196 [lst (a.map keyC), lst (b.map keyC)] [] [] (bool (decide (a = b))) [] := by
 refine Ct.B Tryz.func196 mixed 9999 400 ?_
 simp
 refine sB (fun h1 => ?_) (fun h1 => ?_) <;> simp only [h1] <;> simp <;> (try simp only [nT, nF, dT, dF] at h1)
 ·have e : ¬ a = b := fun e => h1 (by rw [e])
  first | exact fin0 (by simp [e]) rfl | exact zaa (by simp [e])
 have hab : a.length = b.length := by omega
 refine LoopW.inv mixed (Plain.retC _ _ _ _ _) rfl (ι := {k : Nat // k ≤ (a).length ∧ a.take k = b.take k}) (fun k => [(0, lst (a.map keyC)), (1, lst (b.map keyC)), (11, lst (a.map keyC)), (12, int a.length), (13, int k.1)]) (fun k => []) 64 (fun k => (a).length - k.1) ⟨0, by omega, by simp⟩ [] (by constructor <;> simp) ?_
 rintro ⟨k, hk1, hi⟩ B hB
 refine CW.run 9999 400 rfl ?_
 simp
 refine sB (fun h => ?_) (fun h => ?_)
 ·have hk : k < (a).length := by simpa using h
  obtain ⟨x, hx, hr, hm, ht, hd⟩ := inL hk
  have hw := wr (k := k) (by omega)
  simp only [h]
  simp [hr, hw]
  have hrb : b[k]? = some b[k] := List.getElem?_eq_getElem (by omega)
  have htb : b.take (k + 1) = b.take k ++ [b[k]] := by rw [List.take_add_one, hrb]; rfl
  have hne : ¬ x = b[k] → ¬ a = b := by
   intro h2 e; subst e; rw [hr] at hrb; exact h2 (Option.some.inj hrb)
  generalize b[k] = y at hrb htb hne
  simp [hrb]
  rw [qfb]
  refine ⟨by decide +kernel, ?_⟩
  refine sB (fun h2 => ?_) (fun h2 => ?_) <;> simp only [h2] <;> simp [hr, hrb] <;> (try simp only [nT, nF, dT, dF] at h2)
  ·have e := hne h2
   first | exact fin0 (by simp [e]) rfl | exact zaa (by simp [e])
  ·refine hB _ ⟨k + 1, by omega, by rw [ht, htb, hi, h2]⟩ [] ?_ (by simp; omega)
   constructor <;> simp [hw]
 ·have hkl : k = (a).length := by simp at h; omega
  subst hkl
  simp only [h]
  simp [List.take_length, List.drop_length]
  have e : a = b := by
   rw [List.take_length, hab, List.take_length] at hi; exact hi
  first | exact fin0 (by simp [e]) rfl | exact zaa (by simp [e])
attribute [simp] Tryz.ntmps197 Tryz.results197
theorem qhw (a b : List G.Mark) (hl : a.length ≤ 9223372036854775807) : Ct Tryz.prog 197 [lst (a.map zdv), lst (b.map zdv)] [] [] (bool (decide (a = b))) [] := by
 refine Ct.B Tryz.func197 mixed 9999 400 ?_
 simp
 refine sB (fun h1 => ?_) (fun h1 => ?_) <;> simp only [h1] <;> simp <;> (try simp only [nT, nF, dT, dF] at h1)
 ·have e : ¬ a = b := fun e => h1 (by rw [e])
  first | exact fin0 (by simp [e]) rfl | exact zaa (by simp [e])
 have hab : a.length = b.length := by omega
 refine LoopW.inv mixed (Plain.retC _ _ _ _ _) rfl (ι := {k : Nat // k ≤ (a).length ∧ a.take k = b.take k}) (fun k => [(0, lst (a.map zdv)), (1, lst (b.map zdv)), (11, lst (a.map zdv)), (12, int a.length), (13, int k.1)]) (fun k => []) 64 (fun k => (a).length - k.1) ⟨0, by omega, by simp⟩ [] (by constructor <;> simp) ?_
 rintro ⟨k, hk1, hi⟩ B hB
 refine CW.run 9999 400 rfl ?_
 simp
 refine sB (fun h => ?_) (fun h => ?_)
 ·have hk : k < (a).length := by simpa using h
  obtain ⟨x, hx, hr, hm, ht, hd⟩ := inL hk
  have hw := wr (k := k) (by omega)
  simp only [h]
  simp [hr, hw]
  have hrb : b[k]? = some b[k] := List.getElem?_eq_getElem (by omega)
  have htb : b.take (k + 1) = b.take k ++ [b[k]] := by rw [List.take_add_one, hrb]; rfl
  have hne : ¬ x = b[k] → ¬ a = b := by
   intro h2 e; subst e; rw [hr] at hrb; exact h2 (Option.some.inj hrb)
  generalize b[k] = y at hrb htb hne
  simp [hrb]
  rw [qhe]
  refine ⟨by decide +kernel, ?_⟩
  refine sB (fun h2 => ?_) (fun h2 => ?_) <;> simp only [h2] <;> simp [hr, hrb] <;> (try simp only [nT, nF, dT, dF] at h2)
  ·have e := hne h2
   first | exact fin0 (by simp [e]) rfl | exact zaa (by simp [e])
  ·refine hB _ ⟨k + 1, by omega, by rw [ht, htb, hi, h2]⟩ [] ?_ (by simp; omega)
   constructor <;> simp [hw]
 ·have hkl : k = (a).length := by simp at h; omega
  subst hkl
  simp only [h]
  simp [List.take_length, List.drop_length]
  have e : a = b := by
   rw [List.take_length, hab, List.take_length] at hi; exact hi
  first | exact fin0 (by simp [e]) rfl | exact zaa (by simp [e])
attribute [simp] Tryz.ntmps244 Tryz.results244
theorem qeb (a b : List Rule) (kf : D) (hf : ∀ x ∈ a, ∀ y, FnOk Tryz.prog (.d kf) [st (zb4 x), st (zb4 y)] (bool (decide (x = y)))) (hl : a.length ≤ 9223372036854775807) : Ct Tryz.prog 244 [lst (a.map zb4), lst (b.map zb4), .d kf] [] [] (bool (decide (a = b))) [] := by
 refine Ct.B Tryz.func244 mixed 9999 400 ?_
 simp
 refine sB (fun h1 => ?_) (fun h1 => ?_) <;> simp only [h1] <;> simp <;> (try simp only [nT, nF, dT, dF] at h1)
 ·have e : ¬ a = b := fun e => h1 (by rw [e])
  first | exact fin0 (by simp [e]) rfl | exact zaa (by simp [e])
 have hab : a.length = b.length := by omega
 refine LoopW.inv mixed (Plain.retC _ _ _ _ _) rfl (ι := {k : Nat // k ≤ (a).length ∧ a.take k = b.take k}) (fun k => [(0, lst (a.map zb4)), (1, lst (b.map zb4)), (2, .d kf), (15, lst (a.map zb4)), (16, int a.length), (17, int k.1)]) (fun k => []) 64 (fun k => (a).length - k.1) ⟨0, by omega, by simp⟩ [] (by constructor <;> simp) ?_
 rintro ⟨k, hk1, hi⟩ B hB
 refine CW.run 9999 400 rfl ?_
 simp
 refine sB (fun h => ?_) (fun h => ?_)
 ·have hk : k < (a).length := by simpa using h
  obtain ⟨x, hx, hr, hm, ht, hd⟩ := inL hk
  have hw := wr (k := k) (by omega)
  simp only [h]
  simp [hr, hw]
  have hrb : b[k]? = some b[k] := List.getElem?_eq_getElem (by omega)
  have htb : b.take (k + 1) = b.take k ++ [b[k]] := by rw [List.take_add_one, hrb]; rfl
  have hne : ¬ x = b[k] → ¬ a = b := by
   intro h2 e; subst e; rw [hr] at hrb; exact h2 (Option.some.inj hrb)
  generalize b[k] = y at hrb htb hne
  simp [hrb]
  refine CW.ff (hf x hm y) rfl rfl rfl 9999 ?_
  simp
  refine sB (fun h2 => ?_) (fun h2 => ?_) <;> simp only [h2] <;> simp [hr, hrb] <;> (try simp only [nT, nF, dT, dF] at h2)
  ·have e := hne h2
   first | exact fin0 (by simp [e]) rfl | exact zaa (by simp [e])
  ·refine hB _ ⟨k + 1, by omega, by rw [ht, htb, hi, h2]⟩ [] ?_ (by simp; omega)
   constructor <;> simp [hw]
 ·have hkl : k = (a).length := by simp at h; omega
  subst hkl
  simp only [h]
  simp [List.take_length, List.drop_length]
  have e : a = b := by
   rw [List.take_length, hab, List.take_length] at hi; exact hi
  first | exact fin0 (by simp [e]) rfl | exact zaa (by simp [e])
attribute [simp] Tryz.ntmps108 Tryz.results108
theorem qbj (a b : List Res) (kf : D) (hf : ∀ x ∈ a, ∀ y, FnOk Tryz.prog (.d kf) [st (resC x), st (resC y)] (bool (decide (x = y)))) (hl : a.length ≤ 9223372036854775807) : Ct Tryz.prog 108 [lst (a.map resC), lst (b.map resC), .d kf] [] [] (bool (decide (a = b))) [] := by
 refine Ct.B Tryz.func108 mixed 9999 400 ?_
 simp
 refine sB (fun h1 => ?_) (fun h1 => ?_) <;> simp only [h1] <;> simp <;> (try simp only [nT, nF, dT, dF] at h1)
 ·have e : ¬ a = b := fun e => h1 (by rw [e])
  first | exact fin0 (by simp [e]) rfl | exact zaa (by simp [e])
 have hab : a.length = b.length := by omega
 refine LoopW.inv mixed (Plain.retC _ _ _ _ _) rfl (ι := {k : Nat // k ≤ (a).length ∧ a.take k = b.take k}) (fun k => [(0, lst (a.map resC)), (1, lst (b.map resC)), (2, .d kf), (15, lst (a.map resC)), (16, int a.length), (17, int k.1)]) (fun k => []) 64 (fun k => (a).length - k.1) ⟨0, by omega, by simp⟩ [] (by constructor <;> simp) ?_
 rintro ⟨k, hk1, hi⟩ B hB
 refine CW.run 9999 400 rfl ?_
 simp
 refine sB (fun h => ?_) (fun h => ?_)
 ·have hk : k < (a).length := by simpa using h
  obtain ⟨x, hx, hr, hm, ht, hd⟩ := inL hk
  have hw := wr (k := k) (by omega)
  simp only [h]
  simp [hr, hw]
  have hrb : b[k]? = some b[k] := List.getElem?_eq_getElem (by omega)
  have htb : b.take (k + 1) = b.take k ++ [b[k]] := by rw [List.take_add_one, hrb]; rfl
  have hne : ¬ x = b[k] → ¬ a = b := by
   intro h2 e; subst e; rw [hr] at hrb; exact h2 (Option.some.inj hrb)
  generalize b[k] = y at hrb htb hne
  simp [hrb]
  refine CW.ff (hf x hm y) rfl rfl rfl 9999 ?_
  simp
  refine sB (fun h2 => ?_) (fun h2 => ?_) <;> simp only [h2] <;> simp [hr, hrb] <;> (try simp only [nT, nF, dT, dF] at h2)
  ·have e := hne h2
   first | exact fin0 (by simp [e]) rfl | exact zaa (by simp [e])
  ·refine hB _ ⟨k + 1, by omega, by rw [ht, htb, hi, h2]⟩ [] ?_ (by simp; omega)
   constructor <;> simp [hw]
 ·have hkl : k = (a).length := by simp at h; omega
  subst hkl
  simp only [h]
  simp [List.take_length, List.drop_length]
  have e : a = b := by
   rw [List.take_length, hab, List.take_length] at hi; exact hi
  first | exact fin0 (by simp [e]) rfl | exact zaa (by simp [e])
theorem qco {a b : Rule} (h1 : a.host = b.host) (h2 : a.pre = b.pre) : decide (a = b) = decide (a.split = b.split) := by
 obtain ⟨a1, a2, a3⟩ := a; obtain ⟨b1, b2, b3⟩ := b
 simp only at h1 h2; subst h1 h2
 rw [Bool.eq_iff_iff]; simp
attribute [simp] Tryz.ntmps241 Tryz.results241
theorem qkq (x y : Rule) (hl : x.split.length ≤ 9223372036854775807) : Ct Tryz.prog 241 [st (zb4 x), st (zb4 y)] [] [] (bool (decide (x = y))) [] := by
 refine Ct.B Tryz.func241 mixed 9999 400 ?_
 simp
 refine sG (fun h1 => ?_) (fun h1 => ?_) <;> simp only [h1] <;> simp <;> (try simp only [nT, nF, dT, dF] at h1)
 ·refine sG (fun h2 => ?_) (fun h2 => ?_) <;> simp only [h2] <;> simp <;> (try simp only [nT, nF, dT, dF] at h2)
  ·refine CW.p (eq_w x.split y.split hl) Tryz.call242 9999 ?_
   simp
   rw [qco h1 h2]
   first | exact fin0 (by simp) rfl | exact zaa (by simp)
  ·have e : ¬ x = y := fun e => h2 (by rw [e])
   first | exact fin0 (by simp [e]) rfl | exact zaa (by simp [e])
 ·have e : ¬ x = y := fun e => h1 (by rw [e])
  first | exact fin0 (by simp [e]) rfl | exact zaa (by simp [e])
attribute [simp] Tryz.ntmps179 Tryz.results179
theorem qb5 (a b : Res) (hl : OkRes a) : Ct Tryz.prog 179 [st (resC a), st (resC b)] [] [] (bool (za0 a b)) [] := by
 refine Ct.B Tryz.func179 mixed 9999 400 ?_
 simp
 refine CW.p (zew a) Tryz.call97 9999 ?_
 simp
 refine CW.p (zew b) Tryz.call97 9999 ?_
 simp
 rw [znt]
 refine sG (fun h1 => ?_) (fun h1 => ?_) <;> simp only [h1] <;> simp <;> (try simp only [nT, nF, dT, dF] at h1)
 ·have k1 : a.kind = b.kind := congrArg Key.kind h1
  have k2 : a.name = b.name := congrArg Key.name h1
  refine sG (fun h2 => ?_) (fun h2 => ?_) <;> simp only [h2] <;> simp <;> (try simp only [nT, nF, dT, dF] at h2)
  ·refine sG (fun h3 => ?_) (fun h3 => ?_) <;> simp only [h3] <;> simp <;> (try simp only [nT, nF, dT, dF] at h3)
   ·refine CW.p (qka a.hosts b.hosts hl.hosts) Tryz.call243 9999 ?_
    simp
    refine sG (fun h4 => ?_) (fun h4 => ?_) <;> simp only [h4] <;> simp <;> (try simp only [nT, nF, dT, dF] at h4)
    ·refine CW.p (qeb a.rules b.rules (fnD 241) (fun x hx y => FnOk.of (qkq x y (hl.split x hx)) Tryz.call241 rfl rfl) hl.rules) Tryz.call244 9999 ?_
     simp
     refine ⟨by decide +kernel, ?_⟩
     first | exact fin0 (by simp [za0, k1, k2, h2, h3, h4]) rfl | exact zaa (by simp [za0, k1, k2, h2, h3, h4])
    ·refine ⟨by decide +kernel, ?_⟩
     first | exact fin0 (by simp [za0, h4]) rfl | exact zaa (by simp [za0, h4])
   ·refine ⟨by decide +kernel, ?_⟩
    first | exact fin0 (by simp [za0, h3]) rfl | exact zaa (by simp [za0, h3])
  ·refine ⟨by decide +kernel, ?_⟩
   first | exact fin0 (by simp [za0, h2]) rfl | exact zaa (by simp [za0, h2])
 ·have e : za0 a b = false := by
   simp only [za0]
   have : (decide (a.kind = b.kind) && decide (a.name = b.name)) = false := by rw [show (decide (a.kind = b.kind) && decide (a.name = b.name)) = decide (a.key = b.key) from znt a.key b.key]; simpa using h1
   rw [this]; simp
  refine ⟨by decide +kernel, ?_⟩
  first | exact fin0 (by simp [e]) rfl | exact zaa (by simp [e])
attribute [simp] Tryz.ntmps109 Tryz.results109
theorem zzh (a b : Res) (hl : OkRes a) : Ct Tryz.prog 109 [st (resC a), st (resC b)] [] [] (bool (decide (a = b))) [] := by
 refine Ct.B Tryz.func109 mixed 9999 400 ?_
 simp
 rw [← zn8]
 refine sG (fun h1 => ?_) (fun h1 => ?_) <;> simp only [h1] <;> simp <;> (try simp only [nT, nF, dT, dF] at h1)
 ·refine CW.p (qb5 a b hl) Tryz.call179 9999 ?_
  simp
  first | exact fin0 (by simp [h1]) rfl | exact zaa (by simp [h1])
 ·first | exact fin0 (by simp [h1]) rfl | exact zaa (by simp [h1])
theorem zxy {a b : G.Frame} (h1 : a.type = b.type) (h2 : a.epoch = b.epoch) (h3 : a.kind = b.kind) (h4 : a.nonce = b.nonce) (h5 : a.turn = b.turn) (h6 : a.err = b.err) : decide (a = b) = (decide (a.adds = b.adds) && (decide (a.gone = b.gone) && (decide (a.have_ = b.have_) && decide (a.held = b.held)))) := by
 obtain ⟨a1, a2, a3, a4, a5, a6, a7, a8, a9, a10⟩ := a
 obtain ⟨b1, b2, b3, b4, b5, b6, b7, b8, b9, b10⟩ := b
 simp only at h1 h2 h3 h4 h5 h6
 subst h1 h2 h3 h4 h5 h6
 rw [Bool.eq_iff_iff]; simp [and_assoc]
attribute [simp] Tryz.ntmps132 Tryz.results132
theorem qgl (a b : G.Frame) (hl : OkFrame a) : Ct Tryz.prog 132 [st (zak a), st (zak b)] [] [] (bool (decide (a = b))) [] := by
 refine Ct.B Tryz.func132 mixed 9999 400 ?_
 simp
 refine sG (fun h1 => ?_) (fun h1 => ?_) <;> simp only [h1] <;> simp <;> (try simp only [nT, nF, dT, dF] at h1)
 ·refine sG (fun h2 => ?_) (fun h2 => ?_) <;> simp only [h2] <;> simp <;> (try simp only [nT, nF, dT, dF] at h2)
  ·refine sG (fun h3 => ?_) (fun h3 => ?_) <;> simp only [h3] <;> simp <;> (try simp only [nT, nF, dT, dF] at h3)
   ·refine sG (fun h4 => ?_) (fun h4 => ?_) <;> simp only [h4] <;> simp <;> (try simp only [nT, nF, dT, dF] at h4)
    ·refine sG (fun h5 => ?_) (fun h5 => ?_) <;> simp only [h5] <;> simp <;> (try simp only [nT, nF, dT, dF] at h5)
     ·refine sG (fun h6 => ?_) (fun h6 => ?_) <;> simp only [h6] <;> simp <;> (try simp only [nT, nF, dT, dF] at h6)
      ·rw [zxy h1 h2 h3 h4 h5 h6]
       refine CW.p (qbj a.adds b.adds (fnD 109) (fun x hx y => FnOk.of (zzh x y (hl.adds.all x hx)) Tryz.call109 rfl rfl) hl.adds.len) Tryz.call108 9999 ?_
       simp
       refine sG (fun h7 => ?_) (fun h7 => ?_) <;> simp only [h7] <;> simp <;> (try simp only [nT, nF, dT, dF] at h7)
       ·refine CW.p (qfh a.gone b.gone hl.gone) Tryz.call196 9999 ?_
        simp
        refine sG (fun h8 => ?_) (fun h8 => ?_) <;> simp only [h8] <;> simp <;> (try simp only [nT, nF, dT, dF] at h8)
        ·refine CW.p (qhw a.have_ b.have_ hl.have_) Tryz.call197 9999 ?_
         simp
         refine sG (fun h9 => ?_) (fun h9 => ?_) <;> simp only [h9] <;> simp <;> (try simp only [nT, nF, dT, dF] at h9)
         ·refine CW.p (qfh a.held b.held hl.held) Tryz.call196 9999 ?_
          simp
          first | exact fin0 (by simp [h7, h8, h9]) rfl | exact zaa (by simp [h7, h8, h9])
         ·first | exact fin0 (by simp [h9]) rfl | exact zaa (by simp [h9])
        ·first | exact fin0 (by simp [h8]) rfl | exact zaa (by simp [h8])
       ·first | exact fin0 (by simp [h7]) rfl | exact zaa (by simp [h7])
      ·have e : ¬ a = b := fun e => h6 (by rw [e])
       first | exact fin0 (by simp [e]) rfl | exact zaa (by simp [e])
     ·have e : ¬ a = b := fun e => h5 (by rw [e])
      first | exact fin0 (by simp [e]) rfl | exact zaa (by simp [e])
    ·have e : ¬ a = b := fun e => h4 (by rw [e])
     first | exact fin0 (by simp [e]) rfl | exact zaa (by simp [e])
   ·have e : ¬ a = b := fun e => h3 (by rw [e])
    first | exact fin0 (by simp [e]) rfl | exact zaa (by simp [e])
  ·have e : ¬ a = b := fun e => h2 (by rw [e])
   first | exact fin0 (by simp [e]) rfl | exact zaa (by simp [e])
 ·have e : ¬ a = b := fun e => h1 (by rw [e])
  first | exact fin0 (by simp [e]) rfl | exact zaa (by simp [e])
end Go.Proofs.YtbmnaehodmgibaaGreatDoor
end
section
namespace Go.Proofs.YtbmnaehodmgibaaGreatDoor
open Go.AI Go.G
set_option maxRecDepth 20000
noncomputable abbrev zk0 (S : List Key) : D := .mp true [.int, .str] false (zer S)
noncomputable abbrev zz7 (S : List Res) : D := .mp true [.int, .str] false (lookN S)
noncomputable abbrev visM (l : List Res) : List (Nat × Blk) := [(0, .cells [.d (zk0 (l.map Res.key))] 194), (1, .cells [.own 4] 194), (2, .cells [.d (zz7 l)] 259), (3, .cells [.fn (.func 185) [] [.ptr 0 0, .ptr 1 0, .ptr 2 0, .ptr 3 0]] 261)]
attribute [simp] Tryz.ntmps184 Tryz.results184
theorem qdf (l : List Res) (ha : AscR l) (hl : l.length ≤ 100000) : Ct Tryz.prog 184 [lst (l.map resC)] [] [] (.d (zz7 l)) [] := by
 refine Ct.B Tryz.func184 mixed 9999 400 ?_
 simp
 refine LoopW.U mixed (l) (fun k => [(3, .own 64), (8, lst (l.map resC)), (9, int l.length), (10, int k.1)]) (fun k => [(64, .map true [.int, .str] false (lookN (l.take k.1)))]) 65 [] (by constructor <;> simp [zrz]) ?_
 rintro ⟨k, hk1⟩ B hB
 refine CW.run 9999 400 rfl ?_
 simp [zrz]
 refine sB (fun h => ?_) (fun h => ?_)
 ·have hk : k < (l).length := by simpa using h
  obtain ⟨x, hx, hr, hm, ht, hd⟩ := inL hk
  have hw := wr (k := k) (by omega)
  simp only [h]
  simp [hr, hw]
  have hN := qid ha hr
  have hL := qal hN
  have hU := zww hN
  have hr33 := zfi x
  refine CW.p (zew x) Tryz.call97 9999 ?_
  simp
  refine CW.p (zvb x) Tryz.call96 9999 ?_ (ha := by simp [hL])
  simp [hL]
  refine ⟨by omega, ?_⟩
  refine ⟨by decide +kernel, ?_⟩
  refine hB _ ⟨k + 1, by omega⟩ [] ?_ (by simp; omega)
  constructor <;> simp [hw, ht, hU]
 ·have hkl : k = (l).length := by simp at h; omega
  subst hkl
  simp only [h]
  simp [List.take_length, List.drop_length]
  first | exact fin0 (by simp) rfl | exact zaa (by simp)
theorem qfs (l : List Res) (hl : l.length ≤ 100000) : ∀ (n : Nat) (out : List Key) (k_ : Key), zia l out < n →
  Ct Tryz.prog 185 [st (keyC k_), .ptr 0 0, .ptr 1 0, .ptr 2 0, .ptr 3 0] (visM l)
   [(4, .map true [.int, .str] false (zer out))] (.tup []) [(4, .map true [.int, .str] false (zer (zay l n out k_)))] := by
 intro n
 induction n with
 | zero => intro out k_ h; omega
 | succ n ih =>
   intro out k_ hlt
   refine Ct.of_body Tryz.func185 rfl mixed (by rw [Tryz.ntmps185]; simp) (CW.run 9999 400 rfl ?_)
   simp [Tryz.ntmps185, Tryz.results185]
   cases hg : getR l k_ with
   | none =>
     have hn : k_ ∉ l.map Res.key := by rw [mem_keys, hg]; simp
     have e : zay l (n + 1) out k_ = out := by simp [zay, hg]
     have e1 := zhf hn
     simp [e1]
     first | (refine ⟨[], ?_, ?_, ?_, ?_, ?_, ?_, ?_⟩ <;> simp [nmF, inB, e]; done) | (refine ⟨by decide +kernel, ?_⟩; refine ⟨[], ?_, ?_, ?_, ?_, ?_, ?_, ?_⟩ <;> simp [nmF, inB, e])
   | some r =>
     have hn : k_ ∈ l.map Res.key := by rw [mem_keys, hg]; simp
     by_cases ho : k_ ∈ out
     ·have e : zay l (n + 1) out k_ = out := by simp [zay, hg, ho]
      have e1 := zh8 hn
      have e2 := zh8 ho
      simp [e1, e2]
      first | (refine ⟨[], ?_, ?_, ?_, ?_, ?_, ?_, ?_⟩ <;> simp [nmF, inB, e]; done) | (refine ⟨by decide +kernel, ?_⟩; refine ⟨[], ?_, ?_, ?_, ?_, ?_, ?_, ?_⟩ <;> simp [nmF, inB, e])
     ·have e : zay l (n + 1) out k_ = (za2 r).foldl (zay l n) (out ++ [k_]) := by simp [zay, hg, ho]
      have hlt2 := qan hn ho
      have h33 := zfi r
      have e1 := zh8 hn
      have e2 := zhf ho
      have e3 := zvq hg
      simp [e1, e2, e3]
      refine LoopW.U mixed (za2 r) (fun k => [(1, .ptr 0 0), (2, .ptr 1 0), (3, .ptr 2 0), (4, .ptr 3 0), (21, lst ((za2 r).map keyC)), (22, int (za2 r).length), (23, int k.1)]) (fun k => visM l ++ [(4, .map true [.int, .str] false (zer (((za2 r).take k.1).foldl (zay l n) (out ++ [k_]))))]) 64 [] (by constructor <;> simp) ?_
      rintro ⟨k, hk1⟩ B hB
      refine CW.run 9999 400 rfl ?_
      simp
      refine sB (fun h => ?_) (fun h => ?_)
      ·have hk : k < (za2 r).length := by simpa using h
       obtain ⟨x, hx, hr, hm, ht, hd⟩ := inL hk
       have hw := wr (k := k) (by omega)
       simp only [h]
       simp [hr, hw]
       have h5 : zia l (((za2 r).take k).foldl (zay l n) (out ++ [k_])) < n := by
        have := zt9 (l := l) (fun y hy => zhg (zek l n) ((za2 r).take k) (out ++ [k_]) y hy)
        omega
       refine CW.cc [0,1,2,3,4] (ih (((za2 r).take k).foldl (zay l n) (out ++ [k_])) x h5) Tryz.call185 9999 ?_ (ha := by simp [visM]) (hk := by simp [visM])
       simp [visM]
       refine hB _ ⟨k + 1, by omega⟩ [] ?_ (by simp; omega)
       constructor <;> simp [hw, ht, visM, List.foldl_append]
      ·have hkl : k = (za2 r).length := by simp at h; omega
       subst hkl
       simp only [h]
       simp [List.take_length, List.drop_length]
       rw [← e]
       first | (refine ⟨[], ?_, ?_, ?_, ?_, ?_, ?_, ?_⟩ <;> simp [nmF, inB]; done) | (refine ⟨by decide +kernel, ?_⟩; refine ⟨[], ?_, ?_, ?_, ?_, ?_, ?_, ?_⟩ <;> simp [nmF, inB])
attribute [simp] Tryz.ntmps112 Tryz.results112
theorem zzn (l : List Res) (ha : AscR l) (hl : l.length ≤ 100000) : Ct Tryz.prog 112 [lst (l.map resC)] [] [] (.d (zk0 (zc9 l))) [] := by
 refine Ct.B Tryz.func112 mixed 9999 400 ?_
 simp
 refine CW.p (qg4 l (by omega)) Tryz.call183 9999 ?_
 simp
 refine CW.p (qdf l ha hl) Tryz.call184 9999 ?_
 simp
 have rootsR_nil : zhu [] = [] := rfl
 refine LoopW.U mixed (l) (fun k => [(3, .ptr 64 0), (4, .ptr 66 0), (5, .ptr 65 0), (6, .ptr 67 0), (15, lst (l.map resC)), (16, int l.length), (17, int k.1)]) (fun k => [(64, .cells [.d (zk0 (l.map Res.key))] 194), (65, .cells [.own 68] 194), (66, .cells [.d (zz7 l)] 259), (67, .cells [.fn (.func 185) [] [.ptr 64 0, .ptr 65 0, .ptr 66 0, .ptr 67 0]] 261), (68, .map true [.int, .str] false (zer ((zhu (l.take k.1)).foldl (zay l (l.length + 1)) [])))]) 69 [] (by constructor <;> simp [zfl, rootsR_nil]) ?_
 rintro ⟨k, hk1⟩ B hB
 refine CW.run 9999 400 rfl ?_
 simp [zfl, rootsR_nil]
 refine sB (fun h => ?_) (fun h => ?_)
 ·have hk : k < (l).length := by simpa using h
  obtain ⟨x, hx, hr, hm, ht, hd⟩ := inL hk
  have hw := wr (k := k) (by omega)
  simp only [h]
  simp [hr, hw]
  refine sB (fun h0 => ?_) (fun h0 => ?_) <;> simp only [h0] <;> simp <;> (try simp only [nT, nF, dT, dF] at h0)
  ·have h5 := zvs l ((zhu (l.take k)).foldl (zay l (l.length + 1)) [])
   refine CW.p (zew x) Tryz.call97 9999 ?_
   simp
   refine CW.cc [64,65,66,67,68] (qfs l hl (l.length + 1) ((zhu (l.take k)).foldl (zay l (l.length + 1)) []) x.key (by omega)) Tryz.call185 9999 ?_
   simp
   refine ⟨by decide +kernel, ?_⟩
   refine hB _ ⟨k + 1, by omega⟩ [] ?_ (by simp; omega)
   constructor <;> simp [hw, ht, zl1, h0, List.foldl_append]
  ·refine hB _ ⟨k + 1, by omega⟩ [] ?_ (by simp; omega)
   constructor <;> simp [hw, ht, zl1, h0]
 ·have hkl : k = (l).length := by simp at h; omega
  subst hkl
  simp only [h]
  simp [List.take_length, List.drop_length]
  first | exact fin0 (by simp [zc9]) rfl | exact zaa (by simp [zc9])
attribute [simp] Tryz.ntmps115 Tryz.results115
theorem qi3 (S : List Key) (r : Res) : Ct Tryz.prog 115 [st (resC r), .d (.pro [zk0 S])] [] [] (bool (!decide (r.key ∈ S))) [] := by
 refine Ct.B Tryz.func115 mixed 9999 400 ?_
 simp
 by_cases h : r.key ∈ S
 ·have e1 := zh8 h
  refine CW.p (zew r) Tryz.call97 9999 ?_ (ha := by simp [e1])
  simp [e1]
  refine ⟨by decide +kernel, ?_⟩
  first | exact fin0 (by simp [h]) rfl | exact zaa (by simp [h])
 ·have e1 := zhf h
  refine CW.p (zew r) Tryz.call97 9999 ?_ (ha := by simp [e1])
  simp [e1]
  refine ⟨by decide +kernel, ?_⟩
  first | exact fin0 (by simp [h]) rfl | exact zaa (by simp [h])
attribute [simp] Tryz.ntmps279 Tryz.results279
theorem qgg (l : List Res) (k_ : Key) : Ct Tryz.prog 279 [st (keyC k_), .d (.pro [zk0 (l.map Res.key)])] [] [] (bool (noR l k_)) [] := by
 refine Ct.B Tryz.func279 mixed 9999 400 ?_
 simp
 by_cases h : k_ ∈ l.map Res.key
 ·have e1 := zh8 h
  have e2 : noR l k_ = false := by simp [noR, mem_keys.1 h]
  simp [e1]
  first | exact fin0 (by simp [e2]) rfl | exact zaa (by simp [e2])
 ·have e1 := zhf h
  have e2 : noR l k_ = true := by
   cases h' : (getR l k_).isSome
   ·simp [noR, h']
   ·exact absurd (mem_keys.2 h') h
  simp [e1]
  first | exact fin0 (by simp [e2]) rfl | exact zaa (by simp [e2])
attribute [simp] Tryz.ntmps280 Tryz.results280
theorem qgf (r : Res) : Ct Tryz.prog 280 [st (resC r)] [] [] (bool (zd6 r)) [] := by
 refine Ct.B Tryz.func280 mixed 9999 400 ?_
 simp
 refine sG (fun h1 => ?_) (fun h1 => ?_) <;> simp only [h1] <;> simp <;> (try simp only [nT, nF, dT, dF] at h1)
 ·first | exact fin0 (by simp [zd6, h1]) rfl | exact zaa (by simp [zd6, h1])
 ·first | exact fin0 (by simp [zd6, h1]) rfl | exact zaa (by simp [zd6, h1])
attribute [simp] Tryz.ntmps46 Tryz.results46
theorem zou (l : List Res) (ha : AscR l) (hl : l.length ≤ 100000) : Ct Tryz.prog 46 [lst (l.map resC)] [] [] (lst ((zal l).map resC)) [] := by
 refine Ct.B Tryz.func46 mixed 2 400 ?_
 simp
 refine CW.p (zzn l ha hl) Tryz.call112 2 ?_
 simp
 refine CW.s (tm := [(0, lst (l.map resC)), (3, .d (.pro [zk0 (zc9 l)]))]) (mm := []) (nx := 65) [] [256] (by constructor <;> simp) ?_
 refine CW.run 9999 400 rfl ?_
 simp
 obtain ⟨S, hS⟩ : ∃ S, zc9 l = S := ⟨_, rfl⟩
 have e : zal l = l.filter fun r => !(!decide (r.key ∈ S)) := by simp [zal, hS]
 rw [hS, e]
 clear e hS
 cases l with
 | nil =>
   refine CW.p qbu Tryz.call114 9999 ?_
   simp
   refine CW.p (delE (.fn (.func 115) [] [.pro [zk0 S]])) Tryz.call113 9999 ?_
   simp
   first | exact fin0 (by simp) rfl | exact zaa (by simp)
 | cons x l =>
   refine CW.cc [] (zum x l (by simp at hl; omega)) Tryz.call114 9999 ?_
   simp
   refine CW.cc [129] (delC (x :: l) (.fn (.func 115) [] [.pro [zk0 S]]) (fun r => !decide (r.key ∈ S)) (fun r hr => FnOk.clo (by exact qi3 S r) Tryz.call115 rfl rfl) (by omega)) Tryz.call113 9999 ?_
   simp
   first | exact fin0 (by simp) rfl | exact zaa (by simp)
attribute [simp] Tryz.ntmps221 Tryz.results221
theorem zoo (l : List Res) (ha : AscR l) (hl : l.length ≤ 100000) : Ct Tryz.prog 221 [lst (l.map resC)] [] [] (int (zaq l)) [] := by
 refine Ct.B Tryz.func221 mixed 2 400 ?_
 simp
 refine CW.p (qg4 l (by omega)) Tryz.call183 2 ?_
 simp
 refine CW.s (tm := [(0, lst (l.map resC)), (3, .d (.pro [zk0 (l.map Res.key)]))]) (mm := []) (nx := 65) [] [256] (by constructor <;> simp) ?_
 refine CW.run 9999 400 rfl ?_
 simp
 refine CW.p (zou l ha hl) Tryz.call46 9999 ?_
 simp
 have hlr : (zal l).length ≤ l.length := List.length_filter_le _ _
 refine LoopW.inv mixed (Plain.retC _ _ _ _ _) rfl (ι := {k : Nat // k ≤ ((zal l)).length ∧ ((zal l).take k).all (fun r => !((za2 r).any (noR l))) = true}) (fun k => [(3, .d (.pro [zk0 (l.map Res.key)])), (4, lst ((zal l).map resC)), (11, lst ((zal l).map resC)), (12, int (zal l).length), (13, int k.1)]) (fun k => []) 65 (fun k => ((zal l)).length - k.1) ⟨0, by omega, by simp⟩ [] (by constructor <;> simp) ?_
 rintro ⟨k, hk1, hi⟩ B hB
 refine CW.run 9999 400 rfl ?_
 simp
 refine sB (fun h => ?_) (fun h => ?_)
 ·have hk : k < ((zal l)).length := by simpa using h
  obtain ⟨x, hx, hr, hm, ht, hd⟩ := inL hk
  have hw := wr (k := k) (by omega)
  simp only [h]
  simp [hr, hw]
  have h33 := zfi x
  refine CW.p (zvb x) Tryz.call96 9999 ?_
  simp
  refine CW.p (zpy (za2 x) (.fn (.func 279) [] [.pro [zk0 (l.map Res.key)]]) (noR l) (fun q _ => FnOk.clo (by exact qgg l q) Tryz.call279 rfl rfl) (by omega)) Tryz.call134 9999 ?_
  simp
  refine sB (fun h1 => ?_) (fun h1 => ?_) <;> simp only [h1] <;> simp <;> (try simp only [nT, nF, dT, dF] at h1)
  ·have e0 : ((zal l).any fun r => (za2 r).any (noR l)) = true := List.any_eq_true.2 ⟨x, hm, h1⟩
   have e : zaq l = 6 := by unfold zaq; rw [if_pos e0]
   first | exact fin0 (by simp [e]) rfl | exact zaa (by simp [e])
  ·refine hB _ ⟨k + 1, by omega, by simp [ht, hi, h1]⟩ [] ?_ (by simp; omega)
   constructor <;> simp [hw, ht, h1]
 ·have hkl : k = ((zal l)).length := by simp at h; omega
  subst hkl
  simp only [h]
  simp [List.take_length, List.drop_length]
  rw [List.take_length] at hi
  have e0 : ((zal l).any fun r => (za2 r).any (noR l)) = false := by
   rw [List.any_eq_false]; intro y hy
   have := List.all_eq_true.1 hi y hy
   rw [Bool.not_eq_true'] at this
   rw [this]; exact Bool.false_ne_true
  refine CW.p (qb3 (zal l) (fnD 280) zd6 (fun x _ => FnOk.of (qgf x) Tryz.call280 rfl rfl) (by omega)) Tryz.call138 9999 ?_
  simp
  refine sB (fun h1 => ?_) (fun h1 => ?_) <;> simp only [h1] <;> simp <;> (try simp only [nT, nF, dT, dF] at h1)
  ·have e : zaq l = 7 := by unfold zaq; rw [if_neg (by rw [e0]; exact Bool.false_ne_true), if_pos h1]
   first | exact fin0 (by simp [e]) rfl | exact zaa (by simp [e])
  ·have e : zaq l = 0 := by unfold zaq; rw [if_neg (by rw [e0]; exact Bool.false_ne_true), if_neg (by rw [h1]; exact Bool.false_ne_true)]
   first | exact fin0 (by simp [e]) rfl | exact zaa (by simp [e])
end Go.Proofs.YtbmnaehodmgibaaGreatDoor
end
section
namespace Go.G
open Go.AI
def zy2 (now : List Res) (x : Res) (v : Int) : Int := match getR now x.key with
 | some o => if za0 o x then o.ver else v
 | none => v
def zcj (now l : List Res) (v : Int) (k : Nat) : List Res := zbg now (l.take k) v ++ l.drop k
section
variable {now l : List Res} {v : Int} {k : Nat} {x : Res}
theorem zkc : zcj now l v 0 = l := by simp [zcj, zbg]
theorem zlm : zcj now l v l.length = zbg now l v := by simp [zcj]
theorem zm5 : (zcj now l v k).length = l.length := by simp [zcj, zbg]; omega
theorem ztg (hr : l[k]? = some x) : (zcj now l v k)[k]? = some x := by
 have hk := (List.getElem?_eq_some_iff.1 hr).1
 have e : (zbg now (l.take k) v).length = k := by simp [zbg]; omega
 rw [zcj, List.getElem?_append_right (by omega), e, List.getElem?_drop]
 simpa using hr
theorem ztf (hr : l[k]? = some x) : (List.map resC (zcj now l v k)).set k (resC { x with ver := zy2 now x v }) = List.map resC (zcj now l v (k + 1)) := by
 have hk := (List.getElem?_eq_some_iff.1 hr).1
 have e : (zbg now (l.take k) v).length = k := by simp [zbg]; omega
 rw [← List.map_set, zcj, zcj, List.set_append_right _ _ (by omega), e, Nat.sub_self, List.drop_eq_getElem_cons hk, List.set_cons_zero, List.take_add_one, hr]
 have e2 : l[k] = x := (List.getElem?_eq_some_iff.1 hr).2
 simp [zbg, zy2]
 cases getR now x.key <;> rfl
end
end Go.G
namespace Go.Proofs.YtbmnaehodmgibaaGreatDoor
open Go.AI Go.G
set_option maxRecDepth 20000
attribute [simp] Tryz.ntmps198 Tryz.results198
theorem qdy (kf : D) : Ct Tryz.prog 198 [lst [], .d kf] [] [] (int (-1)) [] := by
 refine Ct.B Tryz.func198 mixed 9999 400 ?_
 simp
 refine LoopW.unroll mixed (Plain.retC _ _ _ _ _) rfl ?_
 refine CW.run 9999 400 rfl ?_
 simp
 first | exact fin0 (by simp) rfl | exact zaa (by simp)
attribute [simp] Tryz.ntmps164 Tryz.results164
theorem zv9 (kf : D) : Ct Tryz.prog 164 [lst [], .d kf] [] [] (lst []) [] := by
 refine Ct.B Tryz.func164 mixed 9999 400 ?_
 simp
 refine CW.p (qdy kf) Tryz.call198 9999 ?_
 simp
 first | exact fin0 (by simp) rfl | exact zaa (by simp)
theorem zpf (l : List Key) (kf : D) (p : Key → Bool) (hf : ∀ x ∈ l, FnOk Tryz.prog (.d kf) [st (keyC x)] (bool (p x))) (hl : l.length ≤ 9223372036854775807) : Ct Tryz.prog 198 [.own 0, .d kf] [(0, .grow 2 (l.map keyC) 89)] [] (int (idxF p l)) [] := by
 refine Ct.B Tryz.func198 mixed 9999 400 ?_
 simp
 refine LoopW.inv mixed (Plain.retC _ _ _ _ _) rfl (ι := {k : Nat // k ≤ (l).length ∧ (l.take k).all (fun x => !p x) = true}) (fun k => [(0, .own 0), (1, .d kf), (7, int l.length), (8, int k.1)]) (fun k => [(0, .grow 2 (l.map keyC) 89)]) 64 (fun k => (l).length - k.1) ⟨0, by omega, by simp⟩ [] (by constructor <;> simp) ?_
 rintro ⟨k, hk1, hi⟩ B hB
 refine CW.run 9999 400 rfl ?_
 simp
 refine sB (fun h => ?_) (fun h => ?_)
 ·have hk : k < (l).length := by simpa using h
  obtain ⟨r, hx, hr, hm, ht, hd⟩ := inL hk
  have hw := wr (k := k) (by omega)
  simp only [h]
  simp [hr, hw, hk]
  refine CW.ff (hf r hm) rfl rfl rfl 9999 ?_ (ha := by simp [hx])
  simp [hx]
  refine sB (fun hp => ?_) (fun hp => ?_) <;> simp only [hp] <;> simp
  ·have e := zcl hi hr hp
   first | (refine ⟨[], ?_, ?_, ?_, ?_, ?_, ?_, ?_⟩ <;> simp [nmF, inB, e]; done) | (refine ⟨by decide +kernel, ?_⟩; refine ⟨[], ?_, ?_, ?_, ?_, ?_, ?_, ?_⟩ <;> simp [nmF, inB, e])
  ·refine hB _ ⟨k + 1, by omega, by simp [ht, hi, hp]⟩ [] ?_ (by simp; omega)
   constructor <;> simp [hw, ht, hp]
 ·have hkl : k = (l).length := by simp at h; omega
  subst hkl
  simp only [h]
  simp [List.take_length, List.drop_length]
  rw [List.take_length] at hi
  have e : idxF p l = -1 := za9 (fun x hx => by have := List.all_eq_true.1 hi x hx; simpa using this)
  first | (refine ⟨[], ?_, ?_, ?_, ?_, ?_, ?_, ?_⟩ <;> simp [nmF, inB, e]; done) | (refine ⟨by decide +kernel, ?_⟩; refine ⟨[], ?_, ?_, ?_, ?_, ?_, ?_, ?_⟩ <;> simp [nmF, inB, e])
theorem zpo (l : List Key) (kf : D) (p : Key → Bool) (hf : ∀ x ∈ l, FnOk Tryz.prog (.d kf) [st (keyC x)] (bool (p x))) (hl : l.length ≤ 1000000) : Ct Tryz.prog 164 [.own 0, .d kf] [] [(0, .grow 2 (l.map keyC) 89)] (lst ((l.filter fun x => !p x).map keyC)) [] := by
 refine Ct.B Tryz.func164 mixed 9999 400 ?_
 simp
 refine CW.cc [0] (zpf l kf p hf (by omega)) Tryz.call198 9999 ?_
 simp
 rcases zja p l with ⟨h1, h2⟩ | ⟨i, x, h1, h2, h3, h4⟩
 ·have e : (l.filter fun x => !p x) = l := by
   rw [List.filter_eq_self]; intro a ha
   have := List.find?_eq_none.1 h2 a ha; simpa using this
  simp [h1]
  first | (refine ⟨[], ?_, ?_, ?_, ?_, ?_, ?_, ?_⟩ <;> simp [nmF, inB, e]; done) | (refine ⟨by decide +kernel, ?_⟩; refine ⟨[], ?_, ?_, ?_, ?_, ?_, ?_, ?_⟩ <;> simp [nmF, inB, e])
 ·have hne : ¬ (i : Int) = -1 := by omega
  have hwi : IntKind.wrap .i64 ((i : Int) + 1) = i + 1 := zae (by omega) (by omega)
  simp [h1, hne, hwi]
  have d0 := DelSt.start (x := x) h1 h2
  refine LoopW.inv mixed (Plain.retC _ _ _ _ _) rfl (ι := {q : Nat × Nat × List Key // DelSt p l q.1 q.2.1 q.2.2}) (fun k => [(0, .own 0), (1, .d kf), (5, int k.1.2.1), (6, int k.1.1)]) (fun k => [(0, .grow 2 (k.1.2.2.map keyC) 89)]) 64 (fun k => l.length - k.1.1) ⟨(i + 1, i, l), d0⟩ [] (by constructor <;> simp) ?_
  rintro ⟨⟨j, i, cur⟩, hd⟩ B hB
  clear h1 h2 h3 h4 hne hwi d0
  have hlen := hd.len
  have hlt := hd.lt
  have hle := hd.le
  simp only at hlen hlt hle
  have w1 : IntKind.wrap .i64 ((j : Int) + 1) = j + 1 := zae (by omega) (by omega)
  have w2 : IntKind.wrap .i64 ((i : Int) + 1) = i + 1 := zae (by omega) (by omega)
  refine CW.run 9999 400 rfl ?_
  simp [hlen]
  refine sB (fun h => ?_) (fun h => ?_) <;> simp only [h] <;> simp <;> (try simp only [nT, nF, dT, dF] at h)
  ·have hj : j < l.length := by omega
   have hv : l[j]? = some l[j] := List.getElem?_eq_getElem hj
   have hm : l[j] ∈ l := List.getElem_mem hj
   generalize l[j] = v at hv hm
   have hg := hd.get hv
   have hjc : j < cur.length := by omega
   have hgx : cur[j] = v := by rw [List.getElem?_eq_getElem hjc] at hg; exact Option.some.inj hg
   simp [hjc, hgx]
   refine CW.ff (hf v hm) rfl rfl rfl 9999 ?_
   simp
   have hic : i < cur.length := by omega
   refine sB (fun h2 => ?_) (fun h2 => ?_) <;> simp only [h2] <;> simp [hic]
   ·have hp : p v = false := by simpa using h2
    refine hB _ ⟨(j + 1, i + 1, cur.set i v), hd.keep hv hp⟩ [] ?_ (by simp; omega)
    constructor <;> simp [w1, w2, List.map_set]
   ·have hp : p v = true := by simpa using h2
    refine hB _ ⟨(j + 1, i, cur), hd.del hv hp⟩ [] ?_ (by simp; omega)
    constructor <;> simp [w1]
  ·have hj : j = l.length := by omega
   subst hj
   have e : cur.take i = l.filter (fun x => !p x) := hd.done
   simp [hlen]
   have e2 : List.take i (List.map keyC cur) = List.map keyC (List.filter (fun x => !p x) l) := by rw [← List.map_take, e]
   have e3 : (List.filter (fun x => !p x) l).length = i := by rw [← e, List.length_take]; omega
   refine ⟨by omega, by omega, by omega, ?_⟩
   rw [e2]
   first | (refine ⟨[], ?_, ?_, ?_, ?_, ?_, ?_, ?_⟩ <;> simp [nmF, inB, e3, List.take_append, show i ≤ i + (l.length - i + (l.length - (i + (l.length - i)))) from by omega]; done) | (refine ⟨by decide +kernel, ?_⟩; refine ⟨[], ?_, ?_, ?_, ?_, ?_, ?_, ?_⟩ <;> simp [nmF, inB, e3, List.take_append, show i ≤ i + (l.length - i + (l.length - (i + (l.length - i)))) from by omega])
attribute [simp] Tryz.ntmps165 Tryz.results165
theorem qas (l : List Res) (hl : l.length ≤ 1000000) : Ct Tryz.prog 165 [lst (l.map resC)] [] [] (.own 64) [(64, .grow 2 ((l.map Res.key).map keyC) 89)] := by
 refine Ct.B Tryz.func165 mixed 9999 400 ?_
 simp
 refine LoopW.nilOwn 3 2 89 rfl ?_
 refine LoopW.U mixed (l) (fun k => [(3, .own 64), (6, lst (l.map resC)), (7, int l.length), (8, int k.1)]) (fun k => [(64, .grow 2 (((l.take k.1).map Res.key).map keyC) 89)]) 65 [] (by constructor <;> simp) ?_
 rintro ⟨k, hk1⟩ B hB
 refine CW.run 9999 400 rfl ?_
 simp
 refine sB (fun h => ?_) (fun h => ?_)
 ·have hk : k < (l).length := by simpa using h
  obtain ⟨x, hx, hr, hm, ht, hd⟩ := inL hk
  have hw := wr (k := k) (by omega)
  simp only [h]
  simp [hr, hw]
  refine CW.p (zew x) Tryz.call97 9999 ?_
  simp
  refine ⟨by omega, ?_⟩
  refine hB _ ⟨k + 1, by omega⟩ [] ?_ (by simp; omega)
  constructor <;> simp [hw, ht]
 ·have hkl : k = (l).length := by simp at h; omega
  subst hkl
  simp only [h]
  simp [List.take_length, List.drop_length]
  first | (refine ⟨[(64, 64)], ?_, ?_, ?_, ?_, ?_, ?_, ?_⟩ <;> simp [nmF, inB]; done) | (refine ⟨by decide +kernel, ?_⟩; refine ⟨[(64, 64)], ?_, ?_, ?_, ?_, ?_, ?_, ?_⟩ <;> simp [nmF, inB])
attribute [simp] Tryz.ntmps43 Tryz.results43
theorem zel (a b : List Res) (ha : OkRs a) : Ct Tryz.prog 43 [lst (a.map resC), lst (b.map resC)] [] [] (bool (decide (a = b))) [] := by
 refine Ct.B Tryz.func43 mixed 9999 400 ?_
 simp
 refine CW.p (qbj a b (fnD 109) (fun x hx y => FnOk.of (zzh x y (ha.all x hx)) Tryz.call109 rfl rfl) ha.len) Tryz.call108 9999 ?_
 simp
 first | exact fin0 (by simp) rfl | exact zaa (by simp)
theorem qh1 (l : List Res) (h : ¬ l = []) (hl : l.length ≤ 1000000) : Ct Tryz.prog 114 [lst (l.map resC)] [] [] (.own 64) [(64, .grow 7 (l.map resC) 85)] := by
 cases l with
 | nil => exact absurd rfl h
 | cons x l => exact zum x l (by simp at hl; omega)
attribute [simp] Tryz.ntmps158 Tryz.results158
theorem qf4 (now l : List Res) (v : Int) (hn : OkRs now) (hl : l.length ≤ 1000000) (hne : ¬ l = []) : Ct Tryz.prog 158 [lst (now.map resC), lst (l.map resC), int v] [] [] (lst ((zbg now l v).map resC)) [] := by
 refine Ct.B Tryz.func158 mixed 9999 400 ?_
 simp
 refine CW.cc [] (qh1 l hne hl) Tryz.call114 9999 ?_
 simp
 refine LoopW.U mixed (l) (fun k => [(0, lst (now.map resC)), (2, int v), (7, .own 64), (14, lst (l.map resC)), (15, int l.length), (16, int k.1)]) (fun k => [(64, .grow 7 ((zcj now l v k.1).map resC) 85)]) 65 [] (by constructor <;> simp [zkc]) ?_
 rintro ⟨k, hk1⟩ B hB
 refine CW.run 9999 400 rfl ?_
 simp [zkc]
 refine sB (fun h => ?_) (fun h => ?_)
 ·have hk : k < (l).length := by simpa using h
  obtain ⟨x, hx, hr, hm, ht, hd⟩ := inL hk
  have hw := wr (k := k) (by omega)
  simp only [h]
  simp [hr, hw]
  have s1 : (zcj now l v k).length = l.length := zm5
  have s2 : (zcj now l v k)[k]? = some x := ztg hr
  have s3 := ztf (now := now) (v := v) hr
  simp only [resC, zy2] at s3
  have s4 : ∀ h, (zcj now l v k)[k]'h = x := fun h => Option.some.inj ((List.getElem?_eq_getElem h).symm.trans s2)
  simp [s1, hk, s4]
  refine CW.p (zew x) Tryz.call97 9999 ?_
  simp
  refine CW.p (qj0 now x.key hn.len) Tryz.call35 9999 ?_
  simp
  cases hg : getR now x.key with
  | none =>
    simp only [hg] at s3
    simp
    refine hB _ ⟨k + 1, by omega⟩ [] ?_ (by simp; omega)
    constructor <;> simp [hw, ht, s3]
  | some o =>
    simp only [hg] at s3
    simp
    have ho : OkRes o := hn.all o (zap hg)
    refine CW.p (qb5 o x ho) Tryz.call179 9999 ?_
    simp
    refine sB (fun h3 => ?_) (fun h3 => ?_) <;> simp only [h3] <;> simp <;> (try simp only [nT, nF, dT, dF] at h3)
    ·rw [if_pos h3] at s3
     simp [s1, hk, s4]
     refine hB _ ⟨k + 1, by omega⟩ [] ?_ (by simp; omega)
     constructor <;> simp [hw, ht, s3]
    ·rw [if_neg (by rw [h3]; exact Bool.false_ne_true)] at s3
     refine hB _ ⟨k + 1, by omega⟩ [] ?_ (by simp; omega)
     constructor <;> simp [hw, ht, s3]
 ·have hkl : k = (l).length := by simp at h; omega
  subst hkl
  simp only [h]
  simp [List.take_length, List.drop_length]
  first | exact fin0 (by simp [zlm]) rfl | exact zaa (by simp [zlm])
theorem qiv (now : List Res) (v : Int) : Ct Tryz.prog 158 [lst (now.map resC), lst [], int v] [] [] (lst []) [] := by
 refine Ct.B Tryz.func158 mixed 9999 400 ?_
 simp
 refine CW.p qbu Tryz.call114 9999 ?_
 simp
 refine LoopW.unroll mixed (Plain.retC _ _ _ _ _) rfl ?_
 refine CW.run 9999 400 rfl ?_
 simp
 first | exact fin0 (by simp) rfl | exact zaa (by simp)
end Go.Proofs.YtbmnaehodmgibaaGreatDoor
end
section
namespace Go.G
open Go.AI
theorem tab_len {l : List Res} (h : tabE l = 0) : l.length ≤ 64 := by
 unfold tabE at h
 split at h
 ·cases h
 ·omega
end Go.G
namespace Go.Proofs.YtbmnaehodmgibaaGreatDoor
open Go.AI Go.G
set_option maxRecDepth 20000
attribute [simp] Tryz.ntmps91 Tryz.results91
theorem zr5 (s : Store) (hs : ¬ s.hist = []) (hl : s.hist.length ≤ 1000000) : Ct Tryz.prog 91 [st (za5 s)] [] [] (lst ((zam s).map resC)) [] := by
 refine Ct.B Tryz.func91 mixed 9999 400 ?_
 simp
 have h0 : 0 < s.hist.length := List.length_pos_iff.2 hs
 have hw : IntKind.wrap .i64 ((s.hist.length : Int) - 1) = ((s.hist.length - 1 : Nat) : Int) := by rw [zae (by omega) (by omega)]; omega
 have e : s.hist[s.hist.length - 1]? = some (zam s) := by
  rw [zam, List.getLastD_eq_getLast?, List.getLast?_eq_getElem?]
  rw [List.getElem?_eq_getElem (by omega)]; rfl
 simp [hw, e]
 first | exact fin0 (by simp) rfl | exact zaa (by simp)
abbrev errA (e : Int) : AV := if e = 0 then .d (.v .nilIface) else .ifc 262 (.ptr 64 0)
abbrev errM (e : Int) (n : Nat) : List (Nat × Blk) := if e = 0 then [] else [(64, .cells [int e, int n] 266)]
attribute [simp] Tryz.ntmps160 Tryz.results160
theorem qh2 (s : Store) (l : List Res) (hs : ¬ s.hist = []) (hl : s.hist.length ≤ 1000000) (hok : OkRs (zam s)) : Ct Tryz.prog 160 [st (za5 s), lst (l.map resC)] [] [] (errA (zb1 s.cap s.hist.length (zam s) l)) (errM (zb1 s.cap s.hist.length (zam s) l) s.hist.length) := by
 refine Ct.B Tryz.func160 mixed 9999 400 ?_
 simp
 refine CW.p (zlj l) Tryz.call219 9999 ?_
 simp
 by_cases h1 : tabE l = 0
 ·simp [h1]
  have h64 := tab_len h1
  have ha := zai h1
  refine sB (fun h2 => ?_) (fun h2 => ?_) <;> simp only [h2] <;> simp <;> (try simp only [nT, nF, dT, dF] at h2)
  ·have e : zb1 s.cap s.hist.length (zam s) l = 8 := by simp [zb1, h1, h2]
   rw [e]
   first | (refine ⟨[(64, 1280)], ?_, ?_, ?_, ?_, ?_, ?_, ?_⟩ <;> simp [nmF, inB, errA, errM]; done) | (refine ⟨by decide +kernel, ?_⟩; refine ⟨[(64, 1280)], ?_, ?_, ?_, ?_, ?_, ?_, ?_⟩ <;> simp [nmF, inB, errA, errM])
  ·have hm := ziv l l
   refine CW.p (qae l (by omega)) Tryz.call220 9999 ?_
   simp
   refine sB (fun h3 => ?_) (fun h3 => ?_) <;> simp only [h3] <;> simp <;> (try simp only [nT, nF, dT, dF] at h3)
   ·have h3' : ¬ (zmc l).length = 0 := by omega
    have e : zb1 s.cap s.hist.length (zam s) l = 6 := by simp only [zb1, if_pos h1, if_neg h2, if_pos h3']
    rw [e]
    first | (refine ⟨[(64, 1600)], ?_, ?_, ?_, ?_, ?_, ?_, ?_⟩ <;> simp [nmF, inB, errA, errM]; done) | (refine ⟨by decide +kernel, ?_⟩; refine ⟨[(64, 1600)], ?_, ?_, ?_, ?_, ?_, ?_, ?_⟩ <;> simp [nmF, inB, errA, errM])
   ·have h3' : ¬ ¬ (zmc l).length = 0 := by omega
    refine CW.p (zoo l ha (by omega)) Tryz.call221 9999 ?_
    simp
    by_cases h4 : zaq l = 0
    ·have h4' : ¬ ¬ zaq l = 0 := fun h => h h4
     simp [h4]
     refine CW.p (zr5 s hs hl) Tryz.call91 9999 ?_
     simp
     refine CW.p (zel (zam s) l hok) Tryz.call43 9999 ?_
     simp
     by_cases h5 : zam s = l
     ·have e : zb1 s.cap s.hist.length (zam s) l = 9 := by simp only [zb1, if_pos h1, if_neg h2, if_neg h3', if_neg h4', if_pos h5]
      rw [e]
      simp [h5]
      first | (refine ⟨[(64, 2176)], ?_, ?_, ?_, ?_, ?_, ?_, ?_⟩ <;> simp [nmF, inB, errA, errM]; done) | (refine ⟨by decide +kernel, ?_⟩; refine ⟨[(64, 2176)], ?_, ?_, ?_, ?_, ?_, ?_, ?_⟩ <;> simp [nmF, inB, errA, errM])
     ·simp [h5]
      refine sB (fun h6 => ?_) (fun h6 => ?_) <;> simp only [h6] <;> simp <;> (try simp only [nT, nF, dT, dF] at h6)
      ·have e : zb1 s.cap s.hist.length (zam s) l = 8 := by simp only [zb1, if_pos h1, if_neg h2, if_neg h3', if_neg h4', if_neg h5, if_pos (show 100000 ≤ s.hist.length by omega)]
       rw [e]
       first | (refine ⟨[(64, 2368)], ?_, ?_, ?_, ?_, ?_, ?_, ?_⟩ <;> simp [nmF, inB, errA, errM]; done) | (refine ⟨by decide +kernel, ?_⟩; refine ⟨[(64, 2368)], ?_, ?_, ?_, ?_, ?_, ?_, ?_⟩ <;> simp [nmF, inB, errA, errM])
      ·have e : zb1 s.cap s.hist.length (zam s) l = 0 := by simp only [zb1, if_pos h1, if_neg h2, if_neg h3', if_neg h4', if_neg h5, if_neg (show ¬ 100000 ≤ s.hist.length by omega)]
       rw [e]
       first | (refine ⟨[], ?_, ?_, ?_, ?_, ?_, ?_, ?_⟩ <;> simp [nmF, inB, errA, errM]; done) | (refine ⟨by decide +kernel, ?_⟩; refine ⟨[], ?_, ?_, ?_, ?_, ?_, ?_, ?_⟩ <;> simp [nmF, inB, errA, errM])
    ·have e : zb1 s.cap s.hist.length (zam s) l = 7 := by simp only [zb1, if_pos h1, if_neg h2, if_neg h3', if_pos h4]
     rw [e]
     simp [h4]
     first | (refine ⟨[(64, 1856)], ?_, ?_, ?_, ?_, ?_, ?_, ?_⟩ <;> simp [nmF, inB, errA, errM]; done) | (refine ⟨by decide +kernel, ?_⟩; refine ⟨[(64, 1856)], ?_, ?_, ?_, ?_, ?_, ?_, ?_⟩ <;> simp [nmF, inB, errA, errM])
 ·have e : zb1 s.cap s.hist.length (zam s) l = tabE l := by simp [zb1, h1]
  simp [h1]
  rw [e]
  simp only [errA, errM, if_neg h1]
  first | (refine ⟨[(64, 960)], ?_, ?_, ?_, ?_, ?_, ?_, ?_⟩ <;> simp [nmF, inB]; done) | (refine ⟨by decide +kernel, ?_⟩; refine ⟨[(64, 960)], ?_, ?_, ?_, ?_, ?_, ?_, ?_⟩ <;> simp [nmF, inB])
theorem qf5 (now l : List Res) (v : Int) (hn : OkRs now) (hl : l.length ≤ 1000000) : Ct Tryz.prog 158 [lst (now.map resC), lst (l.map resC), int v] [] [] (lst ((zbg now l v).map resC)) [] := by
 by_cases h : l = []
 ·subst h; exact qiv now v
 ·exact qf4 now l v hn hl h
attribute [simp] Tryz.ntmps89 Tryz.results89
theorem zq1 (s : Store) (adds : List Res) (gone : List Key) (hs : ¬ s.hist = []) (hl : s.hist.length ≤ 1000000) (hok : OkRs (zam s)) (hn : (zam s).length + adds.length ≤ 1000000) (hg : gone.length ≤ 9223372036854775807) : Ct Tryz.prog 89 [st (za5 s), lst (adds.map resC), lst (gone.map keyC)] [] [] (.tup [st (za5 (zir s adds gone)), errA (zh7 s adds gone)]) (errM (zh7 s adds gone) s.hist.length) := by
 refine Ct.B Tryz.func89 mixed 9999 400 ?_
 simp
 refine CW.p (zr5 s hs hl) Tryz.call91 9999 ?_
 simp
 refine CW.p (zoz (zam s) adds gone hn hg) Tryz.call159 9999 ?_
 simp
 have hpl : (zac (zam s) adds gone).length ≤ 1000000 := Nat.le_trans (zq8 _ _ _) hn
 refine CW.p (qf5 (zam s) (zac (zam s) adds gone) s.hist.length hok hpl) Tryz.call158 9999 ?_
 simp
 refine ⟨by decide +kernel, ?_⟩
 have hc := qh2 s (zgl s adds gone) hs hl hok
 change Ct _ _ _ _ _ (errA (zh7 s adds gone)) (errM (zh7 s adds gone) s.hist.length) at hc
 by_cases he : zh7 s adds gone = 0
 ·have e : zir s adds gone = ⟨s.cap, s.hist ++ [zgl s adds gone]⟩ := if_pos he
  rw [e]
  simp only [errA, errM, if_pos he] at hc ⊢
  refine CW.p hc Tryz.call160 9999 ?_ (ha := by simp [zgl])
  simp [zgl]
  refine ⟨by omega, ?_⟩
  refine ⟨by decide +kernel, ?_⟩
  first | exact fin0 (by simp [zgl]) rfl | exact zaa (by simp [zgl])
 ·have e : zir s adds gone = s := if_neg he
  rw [e]
  simp only [errA, errM, if_neg he] at hc ⊢
  refine CW.cc [] hc Tryz.call160 9999 ?_ (ha := by simp [zgl]) (hk := by simp [zgl])
  simp [zgl]
  first | (refine ⟨[(64, 1216)], ?_, ?_, ?_, ?_, ?_, ?_, ?_⟩ <;> simp [nmF, inB]; done) | (refine ⟨by decide +kernel, ?_⟩; refine ⟨[(64, 1216)], ?_, ?_, ?_, ?_, ?_, ?_, ?_⟩ <;> simp [nmF, inB])
end Go.Proofs.YtbmnaehodmgibaaGreatDoor
end
section
namespace Go.AI
noncomputable def rfA : Code → Option Code
 | .seq a b => match rfA a with
   | some c => some c
   | none => rfA b
 | .block _ a => rfA a
 | .rangeFunc _ _ c _ => some c
 | _ => none
noncomputable def rfC : Code → Option Code
 | .seq a b => match rfC a with
   | some c => some c
   | none => rfC b
 | .block _ a => rfC a
 | .rangeFunc _ _ _ c => some c
 | _ => none
end Go.AI
open Go.RowKit Go.Shelf
namespace Go.Proofs.YtbmnaehodmgibaaGreatDoor
open Go.AI Go.G
set_option maxRecDepth 20000
noncomputable abbrev idxM (S : List Res) : List (Nat × Blk) := [(0, .cells [.own 1] 234), (1, .map true [.int, .str] true (zhp S))]
noncomputable abbrev idxB (x : Res) (S : List Res) : List (Nat × Blk) := [(0, .cells [.own 1] 234), (1, .map true [.int, .str] true (zhp S)), (64, .cells ((resC x).map .d) 85)]
theorem zxt (x : Res) (S : List Res) (L dp : Nat) {c : Code} (hc : (Tryz.f161.body.bind rfA) = some c) :
  CI (some L) dp (fun _ _ _ => True) Tryz.prog 16 (fun e y => e = .normal ∧ AI.Sub y [(3, .ptr 0 0), (5, .ptr 64 0)] (idxB x S) 65 []) [.code c] ⟨[(3, .ptr 0 0), (10, st (resC x))], (idxM S).map (fun p => (p.1, some p.2)), 64⟩ := by
 simp only [Tryz.f161, Option.bind_some, rfA, Option.some.injEq] at hc
 subst hc
 refine CI.run 9999 400 rfl ?_
 simp
 constructor <;> simp
theorem qdw (x : Res) (S : List Res) (L dp : Nat) {c : Code} (hc : (Tryz.f161.body.bind rfC) = some c) :
  CI (some L) dp (fun _ _ _ => True) Tryz.prog 16 (retR (idxM S) (idxM (x :: S))) [.code c] ⟨[(3, .ptr 0 0), (5, .ptr 64 0)], (idxB x S).map (fun p => (p.1, some p.2)), 65⟩ := by
 simp only [Tryz.f161, Option.bind_some, rfC, Option.some.injEq] at hc
 subst hc
 have hU := zwv S x
 refine CI.run 9999 400 rfl ?_
 simp
 refine CI.p (zew x) Tryz.call97 9999 ?_
 simp
 have hU' := hU
 simp only [resC] at hU'
 refine ⟨by decide +kernel, rfl, ?_⟩
 refine ⟨?_, ?_, ?_, ?_, ?_, ?_, ?_⟩ <;> simp [nmF, inB, hU']
theorem qby (l : List Res) (hl : l.length ≤ 1000000) (L dp : Nat) (r : Loop) (s0 : Names) (T : Array Value) (hT : T.size = 16) {H : Nat} (hT3 : T[3]? = some (.pointer (some ⟨H, 0, none⟩))) (hs0 : s0 0 = some (.pointer (some ⟨H, 0, none⟩)))
  {ca cb : Code} (hca : (Tryz.f161.body.bind rfA) = some ca) (hcb : (Tryz.f161.body.bind rfC) = some cb) (hrs : r.state = .ready) (hrp : r.pending = none) (hrt : r.tmps = T) (hra : r.assign = ca) (hrb : r.body = cb) (hps : r.params = #[9, 10])
  {c : Code} (hc : Tryz.f281.body = some c) :
  CI none dp (IterJ s0 L r) Tryz.prog 19 (fun e y => (e = .normal ∨ e = .ret) ∧ FinOk (zaf y.mm) (.d (.v undef)) (idxM []) (.d (.v undef)) (idxM l) []) [.code c] ⟨zi4 0 [.d (.fn (.yield L) [] []), .d (.pro [lD (l.map resC)])], (idxM []).map (fun p => (p.1, some p.2)), 64⟩ := by
 simp only [Tryz.f281, Option.some.injEq] at hc
 subst hc
 have hw0 : IntKind.wrap .i64 ((l.length : Int) - 1) = (l.length : Int) - 1 := zae (by omega) (by omega)
 refine CI.run 9999 400 rfl ?_
 simp [hw0]
 refine LoopI.inv mixed rfl (ι := {j : Nat // j ≤ l.length}) (fun j => [(0, .d (.fn (.yield L) [] [])), (1, .d (.pro [lD (l.map resC)])), (3, int ((j.1 : Int) - 1))]) (fun j => idxM (l.drop j.1)) 64 (fun j => j.1) ⟨l.length, Nat.le_refl _⟩ [] (by constructor <;> simp [zrx]) ?_
 rintro ⟨j, hj⟩ B hB
 refine CI.run 9999 400 rfl ?_
 simp
 refine sBI (fun h => ?_) (fun h => ?_) <;> simp only [h] <;> simp <;> (try simp only [nT, nF, dT, dF] at h)
 ·have hlt : j - 1 < l.length := by omega
  obtain ⟨x, hx⟩ : ∃ x, l[j - 1]? = some x := ⟨_, List.getElem?_eq_getElem hlt⟩
  have hxe : l[j - 1] = x := (List.getElem?_eq_some_iff.1 hx).2
  have hj1 : ((j : Int) - 1) = ((j - 1 : Nat) : Int) := by omega
  have hd : l.drop (j - 1) = x :: l.drop j := by
   have := List.drop_eq_getElem_cons hlt
   rw [hxe, show j - 1 + 1 = j by omega] at this
   exact this
  simp [hj1, hlt, hxe, h]
  refine CI.yield (tmA := [(3, .ptr 0 0), (10, st (resC x))]) (tmB := [(3, .ptr 0 0), (5, .ptr 64 0)]) (m0 := idxM (l.drop j)) (m1 := idxM (x :: l.drop j)) (mB := idxB x (l.drop j)) (nxB := 65) (ntA := 16) mixed hrs hrp (by rw [hrt, hT]) ?_ ?_ rfl (.inl rfl) rfl rfl ?_ ?_ ?_ ?_ ?_ ?_ ?_ ?_
  ·rw [hra]; exact zxt x (l.drop j) L _ hca
  ·rw [hrb]; exact qdw x (l.drop j) L _ hcb
  ·simp
  ·simp [hps]
  ·intro σ I w vs hk hl ha t
   match vs, hl with
   | [v0, v1], _ =>
     have h1 := ha 1 _ v1 (by simp; rfl) rfl (by simp [inA, inA.inL]) (by simp [AV.ren])
     rw [hps, hrt]
     simp only [zad]
     by_cases t3 : 3 = t
     ·subst t3
      simp [hT3]
      exact .ptr (hk 0 _ hs0 (by omega))
     ·by_cases t10 : 10 = t
      ·subst t10
       simp [hT]
       exact h1
      ·simp only [if_neg t3, if_neg t10]; exact .any _
  ·intro p hp
   simp at hp
   rcases hp with rfl | rfl <;> simp [inB, inA, inA.inL, Blk.ren, AV.ren]
  ·intro p hp
   simp at hp
   rcases hp with rfl | rfl <;> simp [Blk.ren, AV.ren]
  ·intro p hp
   simp at hp
   rcases hp with rfl | rfl <;> simp [zab]
  ·intro p hp
   simp at hp
   rcases hp with rfl | rfl <;> simp
  ·refine CI.runOps 9999 400 rfl ?_
   simp [zka]
   have hw : IntKind.wrap .i64 (((j - 1 : Nat) : Int) - 1) = ((j - 1 : Nat) : Int) - 1 := zae (by omega) (by omega)
   refine hB _ ⟨j - 1, by omega⟩ [] ?_ (by simp; omega)
   constructor <;> simp [hw, hd]
 ·have hj0 : j = 0 := by omega
  subst hj0
  refine ⟨?_, ?_, ?_, ?_, ?_, ?_, ?_⟩ <;> simp [nmF, inB]
def idxS (H M : Nat) : Names := fun b => if b = 0 then some (.pointer (some ⟨H, 0, none⟩)) else if b = 1 then some (.map (some M)) else none
theorem zyd (l : List Res) (hl : l.length ≤ 1000000) (L n : Nat) (r : Loop) (T : Array Value) (hT : T.size = 16) {H M : Nat} (hT3 : T[3]? = some (.pointer (some ⟨H, 0, none⟩)))
  {ca cb : Code} (hca : (Tryz.f161.body.bind rfA) = some ca) (hcb : (Tryz.f161.body.bind rfC) = some cb) (hrs : r.state = .ready) (hrp : r.pending = none) (hrt : r.tmps = T) (hra : r.assign = ca) (hrb : r.body = cb) (hps : r.params = #[9, 10])
  {W : World} {I : Nat → Prop} {v : Value} (hib : ∀ n, I n → n < W.heap.size) (hrm : RM (idxS H M) I W (zab (idxM []))) (hv : RD I W (.pro [lD (l.map resC)]) v) (hL : W.heap[L]? = some (.loop r)) (hI : ¬ I L) :
  CallsIn (FW none) n Tryz.prog 281 #[.func (.yield L) #[] #[], v] W fun e W' => (∃ u, e = .returned u) ∧ ∃ I', Post (idxS H M) I W (zab (idxM [])) 64 (idxS H M) I' W' (zab (idxM l)) := by
 refine callsIn_of_wp (F := FW none) Tryz.func281 rfl trivial ?_ rfl
 let E : Ctx := { P := Tryz.prog, w0 := W, bor := Owns (idxS H M) (zab (idxM [])), I0 := I, nt := 19, s0 := idxS H M }
 have hlow : ∀ b, 64 ≤ b → idxS H M b = none := fun b hb => by unfold idxS; rw [if_neg (by omega), if_neg (by omega)]
 have hlk : zaf ((idxM []).map fun p => (p.1, some p.2)) = zab (idxM []) := zdi _
 have hrel : Rel E (X.den ⟨zi4 0 [.d (.fn (.yield L) [] []), .d (.pro [lD (l.map resC)])], (idxM []).map (fun p => (p.1, some p.2)), 64⟩)
   { tmps := #[.func (.yield L) #[] #[], v] ++ Array.replicate (Tryz.f281.ntmps - (#[Value.func (.yield L) #[] #[], v] : Array Value).size) undef, defers := [] } W := by
  refine ⟨idxS H M, I, ?_, rfl, fun t => ?_, ?_, fun b hb => hlow b hb, hib, fun _ h => h, fun n h => .inl h, fun n h => ?_, rfl, rfl, ⟨rfl, Nat.le_refl _⟩, Nat.le_refl _, fun _ _ _ => rfl, fun _ _ h => h, hlow⟩
  ·simp [E, Tryz.ntmps281]
  ·simp only [X.den, zf7, Nat.zero_le, if_true, Nat.sub_zero]
   match t with
   | 0 =>
     simp
     exact .d (.fn (xs := []) (ys := []) rfl rfl (fun i c x h => by simp at h) (fun i c x h => by simp at h))
   | 1 =>
     simp
     exact .d hv
   | t + 2 => exact .any _
  ·show RM (idxS H M) I W (zaf _); rw [hlk]; exact hrm
  ·have h' : Owns (idxS H M) (zaf ((idxM []).map fun p => (p.1, some p.2))) n := h
   rw [hlk] at h'; exact .inl h'
 have hw := (zhm mixed (qby l hl L n r (idxS H M) T hT hT3 rfl hca hcb hrs hrp hrt hra hrb hps rfl) E rfl rfl (IterJ.of_rel (m0 := idxM []) (I0 := I) rfl rfl rfl hrm hL hI)).1 rfl _ W hrel
 simp only [aftI] at hw
 refine wpIn_mono hw (fun e a W' hq => ?_)
 obtain ⟨y, ⟨σf, If, hr⟩, he, hfin⟩ : zft E (fun e y => (e = .normal ∨ e = .ret) ∧ FinOk (zaf y.mm) (.d (.v undef)) (idxM []) (.d (.v undef)) (idxM l) []) e a W' := by
  cases e <;> simpa [aftI] using hq
 have hpost := zq4 (w := W) (σ := idxS H M) (I := I) rfl rfl rfl rfl hrm hr hfin
 have hres : (results Tryz.f281 a.tmps).run Tryz.prog W' = .ok (.tuple #[]) W' := zh5 (vs := []) (by
  show (([] : List ResultVar).mapM (zkj a.tmps)).run Tryz.prog W' = .ok [] W'
  rw [List.mapM_nil]; rfl)
 rcases he with rfl | rfl
 ·exact ⟨hr.dfs, _, hres, ⟨_, rfl⟩, If, hpost⟩
 ·exact ⟨hr.dfs, _, hres, ⟨_, rfl⟩, If, hpost⟩
attribute [simp] Tryz.ntmps222 Tryz.results222
theorem zyc (l : List Res) : Ct Tryz.prog 222 [lst (l.map resC)] [] [] (.d (.fn (.func 281) [] [.pro [lD (l.map resC)]])) [] := by
 refine Ct.B Tryz.func222 mixed 9999 400 ?_
 simp
 first | exact fin0 (by simp) rfl | exact zaa (by simp)
attribute [local go_sem] Oper.semAt_some in
set_option maxHeartbeats 1000000 in
theorem qa0 (l : List Res) (hl : l.length ≤ 1000000) : Ct Tryz.prog 161 [lst (l.map resC)] [] [] (.d (idxD l)) [] := by
 intro σ I w vs hib hlen hv hrm hlow
 match vs, hlen with
 | [v0], _ =>
 have hv0 := hv 0 _ v0 rfl rfl
 refine (callsIn_wide (n := 4)).1 ?_
 refine callsIn_of_wp_marks (F := FW none) Tryz.func161 rfl trivial ?_ rfl
 let E : Ctx := { P := Tryz.prog, w0 := w, bor := fun _ => False, I0 := I, nt := 16, s0 := σ }
 have hrel : Rel E (X.den ⟨zi4 0 [lst (l.map resC)], [], 64⟩) { tmps := #[v0] ++ Array.replicate (Tryz.f161.ntmps - (#[v0] : Array Value).size) undef, defers := [] } w := by
  refine ⟨σ, I, ?_, rfl, fun t => ?_, ⟨fun b k hb => by simp [X.den, zaf] at hb, fun b b' k k' x x' n hb => by simp [X.den, zaf] at hb⟩, fun b hb => hlow b hb, hib, fun _ h => h, fun n h => .inl h, fun n h => ?_, rfl, rfl, ⟨rfl, Nat.le_refl _⟩, Nat.le_refl _, fun _ _ _ => rfl, fun _ _ h => h, hlow⟩
  ·simp [E, Tryz.ntmps161]
  ·simp only [X.den, zf7, Nat.zero_le, if_true, Nat.sub_zero]
   match t with
   | 0 => simpa using hv0
   | t + 1 => exact .any _
  ·obtain ⟨b, k, x, hb, _⟩ := h
   simp [X.den, zaf] at hb
 generalize ({ tmps := #[v0] ++ Array.replicate (Tryz.f161.ntmps - (#[v0] : Array Value).size) undef, defers := [] } : Act) = a0 at hrel ⊢
 refine zhz (E := E) (nt := 16) (tm := [(0, lst (l.map resC))]) (m := []) (nx := 64) (gv := []) mixed rfl rfl ?_ hrel (fun a1 w1 hr1 => ?_)
 ·refine CI.run 9999 400 rfl ?_
  simp
  constructor <;> simp
 refine zhz (E := E) (nt := 16) (tm := [(0, lst (l.map resC)), (3, .ptr 64 0)]) (m := [(64, .cells [.own 65] 234), (65, .map true [.int, .str] true (zhp []))]) (nx := 66) (gv := []) mixed rfl rfl ?_ hr1 (fun a2 w2 hr2 => ?_)
 ·refine CI.run 9999 400 rfl ?_
  simp
  constructor <;> simp [zrx]
 refine wpIn_seq ?_
 refine zhz (E := E) (nt := 16) (tm := [(0, lst (l.map resC)), (3, .ptr 64 0), (8, .d (.fn (.func 281) [] [.pro [lD (l.map resC)]]))]) (m := [(64, .cells [.own 65] 234), (65, .map true [.int, .str] true (zhp []))]) (nx := 66) (gv := []) mixed rfl rfl ?_ hr2 (fun a3 w3 hr3 => ?_)
 ·refine CI.run 9999 400 rfl ?_
  simp
  refine CI.p (zyc l) Tryz.call222 9999 ?_
  simp
  constructor <;> simp
 refine wpIn_block ?_
 obtain ⟨σ3, I3, h3⟩ := hr3
 have hmm : RM σ3 I3 w3 (zab [(64, .cells [.own 65] 234), (65, .map true [.int, .str] true (zhp []))]) := by rw [← zdi]; exact h3.mm
 obtain ⟨xH, hxH, hbH, hnH⟩ := hmm.blk 64 _ rfl
 obtain ⟨xM, hxM, hbM, hnM⟩ := hmm.blk 65 _ rfl
 have hown : ∀ n, Owns σ3 (zab [(64, .cells [.own 65] 234), (65, .map true [.int, .str] true (zhp []))]) n → w.heap.size ≤ n := fun n hn => by
  rcases h3.mine n (by show Owns σ3 (zaf _) n; rw [zdi]; exact hn) with g | g
  ·exact g.elim
  ·exact g
 obtain ⟨H, rfl⟩ : ∃ H, xH = .pointer (some ⟨H, 0, none⟩) := by cases hbH; exact ⟨_, rfl⟩
 obtain ⟨M, rfl⟩ : ∃ M, xM = .map (some M) := by cases hbM; exact ⟨_, rfl⟩
 have hHM : H ≠ M := fun e => by
  have := hmm.apart 64 65 _ _ _ _ H rfl rfl hxH hxM rfl (by rw [e]; rfl)
  omega
 have hHw : w.heap.size ≤ H := hown H ⟨64, _, _, rfl, hxH, rfl⟩
 have hMw : w.heap.size ≤ M := hown M ⟨65, _, _, rfl, hxM, rfl⟩
 have hT : a3.tmps.size = 16 := h3.size
 have hT3 : a3.tmps[3]? = some (.pointer (some ⟨H, 0, none⟩)) := by
  have h := h3.tm 3
  simp only [X.den, zad] at h
  have e : a3.tmps[3]? = some (a3.tmps.getD 3 undef) := by simp [hT]
  rw [e]
  generalize a3.tmps.getD 3 undef = z at h
  cases h with
  | @ptr b off n h => rw [hxH] at h; cases h; rfl
 obtain ⟨v, hT8, hv8⟩ : ∃ v, a3.eval (.tmp 8) = .func (.func 281) #[] #[v] ∧ RD I3 w3 (.pro [lD (l.map resC)]) v := by
  have h := h3.tm 8
  simp only [X.den, zad] at h
  show ∃ v, a3.tmps.getD 8 undef = _ ∧ _
  generalize a3.tmps.getD 8 undef = z at h
  cases h with
  | d h => cases h with
    | @fn f first captured xs ys hx hy h1 h2 =>
      have e1 : xs = [] := List.eq_nil_of_length_eq_zero (by simpa using hx)
      match ys, hy with
      | [y], _ => subst e1; exact ⟨y, rfl, h2 0 _ y rfl rfl⟩
 refine zva (F := FW none) rfl (by omega) hT8 trivial (enters_of Tryz.func281 (by kernel_rfl) rfl) ?_
 rintro fn hfn r hr
 obtain ⟨W, hW⟩ : ∃ W, (w3.alloc (.deferred (some []))).alloc (.loop r) = W := ⟨_, rfl⟩
 rw [hW]
 have hL : W.heap[w3.heap.size + 1]? = some (.loop r) := by
  rw [← hW]
  have := World.alloc_heap_new (w3.alloc (.deferred (some []))) (.loop r); rwa [World.size_alloc] at this
 have hD : W.heap[w3.heap.size]? = some (.deferred (some [])) := by
  rw [← hW]; exact (Below.heap_alloc _ _ _ (by simp)).trans (World.alloc_heap_new w3 _)
 have hold : ∀ n, n < w3.heap.size → W.heap[n]? = w3.heap[n]? := fun n hn => by
  rw [← hW]; exact (Below.heap_alloc _ _ n (by simp; omega)).trans (Below.heap_alloc _ _ n hn)
 have hsz : W.heap.size = w3.heap.size + 2 := by rw [← hW]; simp
 have hos : W.os = w3.os := by rw [← hW]; rfl
 have htape : W.tape = w3.tape := by rw [← hW]; rfl
 have hout : SameOut W w3 := by rw [← hW]; exact ⟨rfl, Nat.le_refl _⟩
 have hib3 : ∀ n, I3 n → n < W.heap.size := fun n hn => by have := h3.ib n hn; omega
 have hIL : ¬ I3 (w3.heap.size + 1) := fun h => by have := h3.ib _ h; omega
 have hrmW : RM (idxS H M) I3 W (zab (idxM [])) := by
  refine ⟨fun b k hb => ?_, fun b b' k k' x x' n h1 h2 q1 q2 q3 q4 => ?_⟩
  ·simp only [zab] at hb
   split at hb
   ·rename_i e; cases hb; subst e
    refine ⟨_, rfl, ?_, fun n hn => ⟨by have := (hnH n hn).1; omega, (hnH n hn).2⟩⟩
    cases hbH with
    | @cells cs T n arr c1 c2 c3 =>
      refine .cells ((hold H (hnH H rfl).1).trans c1) (by simpa using c2) (fun i c x d1 d2 => ?_)
      match i with
      | 0 =>
        simp at d1; subst d1
        have := c3 0 _ x rfl d2
        cases this with
        | own e1 e2 => rw [hxM] at e1; cases e1; exact .own rfl rfl
      | i + 1 => simp at d1
   ·split at hb
    ·rename_i e; cases hb; subst e
     refine ⟨_, rfl, ?_, fun n hn => ⟨by have := (hnM n hn).1; omega, (hnM n hn).2⟩⟩
     cases hbM with
     | map keys vals c1 c2 c3 c4 c5 c6 => exact .map keys vals ((hold M (hnM M rfl).1).trans c1) c2 c3 c4 c5 (fun i d j c x d1 d2 d3 d4 => (c6 i d j c x d1 d2 d3 d4).mono (fun n hn => hold n (h3.ib n hn)) (fun _ h => h))
    ·cases hb
  ·have two : ∀ b k, zab (idxM []) b = some k → b = 0 ∨ b = 1 := fun b k h => by
    simp only [zab] at h
    split at h
    ·exact .inl (by omega)
    ·split at h
     ·exact .inr (by omega)
     ·cases h
   rcases two b k h1 with rfl | rfl <;> rcases two b' k' h2 with rfl | rfl
   ·rfl
   ·cases q1; cases q2; cases q3; cases q4; exact absurd rfl hHM
   ·cases q1; cases q2; cases q3; cases q4; exact absurd rfl hHM
   ·rfl
 have hvW : RD I3 W (.pro [lD (l.map resC)]) v := hv8.mono (fun n hn => hold n (h3.ib n hn)) (fun _ h => h)
 refine (zyd l hl (w3.heap.size + 1) _ r a3.tmps hT hT3 (ca := r.assign) (cb := r.body) (by rw [hr]; simp only [Tryz.f161, Option.bind_some, rfA]) (by rw [hr]; simp only [Tryz.f161, Option.bind_some, rfC]) (by rw [hr]) (by rw [hr]) (by rw [hr]) rfl rfl (by rw [hr]) hib3 hrmW hvW hL hIL).mono ?_
 rintro e W' ⟨hu, I', hp⟩
 have hnot : ∀ n, w3.heap.size ≤ n → ¬ Owns (idxS H M) (zab (idxM [])) n := fun n hn ho => by
  obtain ⟨b, k, x, g1, g2, g3⟩ := ho
  obtain ⟨x', p1, p2, p3⟩ := hrmW.blk b k g1
  rw [g2] at p1; cases p1
  have h0 : b = 0 ∨ b = 1 := by
   simp only [zab] at g1
   split at g1
   ·exact .inl (by omega)
   ·split at g1
    ·exact .inr (by omega)
    ·cases g1
  rcases h0 with rfl | rfl
  ·cases g2; simp [hb] at g3; subst g3; have := (hnH H rfl).1; omega
  ·cases g2; simp [hb] at g3; subst g3; have := (hnM M rfl).1; omega
 have hL' : W'.heap[w3.heap.size + 1]? = some (.loop r) := (hp.frame _ (by omega) (hnot _ (by omega))).trans hL
 have hD' : W'.heap[w3.heap.size]? = some (.deferred (some [])) := (hp.frame _ (by omega) (hnot _ (by omega))).trans hD
 refine ⟨hu, r, hL', by rw [hr]; simp, ?_⟩
 rw [show r.pending = none by rw [hr]]
 obtain ⟨xH', hxH', hbH', hnH'⟩ := hp.mem.blk 0 _ rfl
 obtain ⟨xM', hxM', hbM', hnM'⟩ := hp.mem.blk 1 _ rfl
 cases hxH'
 cases hxM'
 have hMne : ∀ n, n = H ∨ n = M → n ≠ w3.heap.size ∧ n ≠ w3.heap.size + 1 := fun n hn => by
  have := (hnH H rfl).1; have := (hnM M rfl).1
  rcases hn with rfl | rfl <;> omega
 have hcH : W'.heap[H]? = some (.cells #[.map (some M)] 234 (0, 0)) := by
  cases hbH' with
  | @cells cs T n arr c1 c2 c3 =>
    have h1 : arr.size = 1 := by simpa using c2
    have h2 : arr[0]? = some (.map (some M)) := by
     have e0 : arr[0]? = some arr[0] := by simp [h1]
     have := c3 0 _ arr[0] rfl e0
     rw [e0]
     generalize arr[0] = z at this
     cases this with
     | own e1 e2 => cases e1; rfl
    have h3 : arr = #[.map (some M)] := by
     apply Array.ext
     ·simp [h1]
     ·intro i hi hi'
      have : i = 0 := by omega
      subst this
      have := (Array.getElem?_eq_some_iff.1 h2).2
      simpa using this
    rw [c1, h3]
 have hw3s : w.heap.size ≤ w3.heap.size := h3.hs
 have hW's : W.heap.size ≤ W'.heap.size := hp.size
 obtain ⟨W3, hW3⟩ : ∃ W3, W'.putObj (w3.heap.size + 1) (.loop { r with state := .exhausted, pending := none }) = W3 := ⟨_, rfl⟩
 have hc3 : W3.cell? ⟨H, 0, none⟩ = some (.map (some M)) := by
  rw [← hW3]
  exact (World.cell?_of_block (World.putObj_heap_other (hMne H (.inl rfl)).2)).trans (by simp [World.cell?, hcH])
 have hD3 : W3.heap[w3.heap.size]? = some (.deferred (some [])) := by rw [← hW3]; exact (World.putObj_heap_other (by omega)).trans hD'
 obtain ⟨Wf, hWf⟩ : ∃ Wf, W3.putObj w3.heap.size (.deferred none) = Wf := ⟨_, rfl⟩
 have hfo : ∀ n, n ≠ w3.heap.size → n ≠ w3.heap.size + 1 → Wf.heap[n]? = W'.heap[n]? := fun n h1 h2 => by
  rw [← hWf, ← hW3]; exact (World.putObj_heap_other h1).trans (World.putObj_heap_other h2)
 have hfs : Wf.heap.size = W'.heap.size := by rw [← hWf, ← hW3]; simp [World.putObj]
 have hfin : ∃ σ' I'', Post σ I w (zab ([] ++ [])) 64 σ' I'' Wf (zab ([] ++ [])) ∧ RV σ' I'' Wf (.d (idxD l)) (.map (some M)) := by
  have hI'D : ∀ n, I' n → n ≠ w3.heap.size ∧ n ≠ w3.heap.size + 1 := fun n hn => by
   rcases hp.inew n hn with g | g | g
   ·have := h3.ib n g; omega
   ·omega
   ·constructor
    ·intro e; subst e; exact hnot _ (Nat.le_refl _) g
    ·intro e; subst e; exact hnot _ (by omega) g
  refine ⟨σ, fun n => I' n ∨ n = M, ?_, ?_⟩
  ·refine ⟨?_, ?_, ?_, by omega, fun _ _ h => h, fun b h1 h2 => absurd h1 h2, fun n h => .inl (hp.imono n (h3.i0 n h)), fun n h => ?_, fun n h => ?_, fun n h1 h2 => ?_, ⟨fun b k hb => by simp [zab] at hb, fun b b' k k' x x' n hb => by simp [zab] at hb⟩, fun b k hb => by simp [zab] at hb, fun n hn => ?_⟩
   ·have : Wf.os = W'.os := by rw [← hWf, ← hW3]; rfl
    rw [this, hp.os, hos, h3.os]
   ·have : Wf.tape = W'.tape := by rw [← hWf, ← hW3]; rfl
    rw [this, hp.tape, htape, h3.tape]
   ·have : SameOut Wf W' := by rw [← hWf, ← hW3]; exact ⟨rfl, Nat.le_refl _⟩
    exact this.trans (hp.output.trans (hout.trans h3.output))
   ·rw [hfs]
    rcases h with h | rfl
    ·exact hp.ib n h
    ·exact (hnM' _ rfl).1
   ·rcases h with h | rfl
    ·rcases hp.inew n h with g | g | g
     ·rcases h3.inew n g with q | q | q
      ·exact .inl q
      ·exact q.elim
      ·exact .inr (.inl q)
     ·exact .inr (.inl (by omega))
     ·obtain ⟨b, k, x, g1, g2, g3⟩ := g
      have h0 : b = 0 ∨ b = 1 := by
       simp only [zab] at g1
       split at g1
       ·exact .inl (by omega)
       ·split at g1
        ·exact .inr (by omega)
        ·cases g1
      rcases h0 with rfl | rfl
      ·cases g2; simp [hb] at g3; subst g3; exact .inr (.inl hHw)
      ·cases g2; simp [hb] at g3; subst g3; exact .inr (.inl hMw)
    ·exact .inr (.inl hMw)
   ·rw [hfo n (by omega) (by omega), hp.frame n (by omega) (fun ho => ?_), hold n (by omega)]
    ·exact h3.frame n h1 (fun h => h.elim)
    ·obtain ⟨b, k, x, g1, g2, g3⟩ := ho
     have h0 : b = 0 ∨ b = 1 := by
      simp only [zab] at g1
      split at g1
      ·exact .inl (by omega)
      ·split at g1
       ·exact .inr (by omega)
       ·cases g1
     rcases h0 with rfl | rfl
     ·cases g2; simp [hb] at g3; subst g3; omega
     ·cases g2; simp [hb] at g3; subst g3; omega
   ·obtain ⟨b, k, x, hb, _⟩ := hn
    simp [zab] at hb
  ·cases hbM' with
   | map keys vals c1 c2 c3 c4 c5 c6 =>
     refine .d (.mp keys vals (.inr rfl) ((hfo M (hMne M (.inr rfl)).1 (hMne M (.inr rfl)).2).trans c1) c3 c4 c5 (fun i d j c x d1 d2 d3 d4 => (c6 i d j c x d1 d2 d3 d4).mono (fun n hn => hfo n (hI'D n hn).1 (hI'D n hn).2) (fun n hn => .inl hn)))
 obtain ⟨σ', I'', hf1, hf2⟩ := hfin
 have hg3 : a3.tmps.getD 3 undef = .pointer (some ⟨H, 0, none⟩) := by simp [hT3]
 have hdf : a3.defers = [] := h3.dfs
 have hrun := run_takeDeferred (P := Tryz.prog) hD3
 rw [hWf] at hrun
 rw [hW3]
 clear hW3 hWf hfo hfs hcH hbH' hbM' hnH' hnM' hp hL' hD' hnot hvW hrmW hIL hib3 hout htape hos hsz hold hD hL hW hr hv8 hrel h3 hmm hown hbH hbM
 generalize W3 = W3 at hc3 hD3 hrun ⊢
 have hTL : a3.tmps.toList.length = 16 := by simpa using hT
 have hFW : FW none = Fence.wide := rfl
 rw [hFW]
 show Code.wpIn Fence.wide 4 Tryz.prog _ _ _ _
 match hm : a3.tmps.toList, hTL with
 | [t0, t1, t2, t3, t4, t5, t6, t7, t8, t9, t10, t11, t12, t13, t14, t15], _ =>
 have hTe : a3.tmps = #[t0, t1, t2, t3, t4, t5, t6, t7, t8, t9, t10, t11, t12, t13, t14, t15] := by rw [← Array.toArray_toList (xs := a3.tmps), hm]
 rw [hTe] at hT3 ⊢
 have h3e : t3 = .pointer (some ⟨H, 0, none⟩) := by simpa using hT3
 subst h3e
 clear hT3 hm hTL hTe
 gi_wp2
 rw [hdf]
 refine ⟨by simp, .inl ⟨_, _, rfl, hrun, ?_⟩⟩
 exact ⟨.map (some M), by simp [results, Tryz.f161, go_sem], _, σ', I'', rfl, hf1, hf2⟩
end Go.Proofs.YtbmnaehodmgibaaGreatDoor
end
section
namespace Go.Proofs.YtbmnaehodmgibaaGreatDoor
open Go.AI Go.G
set_option maxRecDepth 20000
attribute [simp] Tryz.ntmps163 Tryz.results163
theorem xaf (a : List Res) (r : Res) (ha : OkRs a) : Ct Tryz.prog 163 [st (resC r), .d (.pro [idxD a])] [] [] (bool (!decide (getR a r.key = some r))) [] := by
 refine Ct.B Tryz.func163 mixed 9999 400 ?_
 simp
 cases hg : getR a r.key with
 | none =>
   have e1 := zrw hg
   refine CW.p (zew r) Tryz.call97 9999 ?_ (ha := by simp [e1])
   simp [e1]
   refine ⟨by decide +kernel, ?_⟩
   first | exact fin0 (by simp) rfl | exact zaa (by simp)
 | some o =>
   have e1 := zo8 hg
   have ho : OkRes o := ha.all o (zap hg)
   refine CW.p (zew r) Tryz.call97 9999 ?_ (ha := by simp [e1])
   simp [e1]
   refine ⟨by decide +kernel, ?_⟩
   refine CW.p (zzh o r ho) Tryz.call109 9999 ?_
   simp
   first | exact fin0 (by simp) rfl | exact zaa (by simp)
attribute [simp] Tryz.ntmps166 Tryz.results166
theorem xae (b : List Res) (k_ : Key) : Ct Tryz.prog 166 [st (keyC k_), .d (.pro [idxD b])] [] [] (bool (getR b k_).isSome) [] := by
 refine Ct.B Tryz.func166 mixed 9999 400 ?_
 simp
 cases hg : getR b k_ with
 | none =>
   have e1 := zrw hg
   simp [e1]
   first | exact fin0 (by simp) rfl | exact zaa (by simp)
 | some o =>
   have e1 := zo8 hg
   simp [e1]
   first | exact fin0 (by simp) rfl | exact zaa (by simp)
attribute [simp] Tryz.ntmps90 Tryz.results90
theorem qfk (a b : List Res) (ha : OkRs a) (hl : a.length ≤ 1000000) (hb : b.length ≤ 1000000) : Ct Tryz.prog 90 [lst (a.map resC), lst (b.map resC)] [] [] (.tup [lst ((zca a b).map resC), lst ((zda a b).map keyC)]) [] := by
 refine Ct.B Tryz.func90 mixed 2 400 ?_
 simp
 refine CW.p (qa0 a hl) Tryz.call161 2 ?_
 simp
 refine CW.p (qa0 b hb) Tryz.call161 2 ?_
 simp
 refine CW.s (tm := [(0, lst (a.map resC)), (1, lst (b.map resC)), (6, .d (.pro [idxD a])), (7, .d (.pro [idxD b]))]) (mm := []) (nx := 65) [] [448,512] (by constructor <;> simp) ?_
 refine CW.run 9999 400 rfl ?_
 simp
 refine CW.p (zpk b (.fn (.func 163) [] [.pro [idxD a]]) (fun r => !decide (getR a r.key = some r)) (fun r hr => FnOk.clo (by exact xaf a r ha) Tryz.call163 rfl rfl) hb) Tryz.call162 9999 ?_
 simp
 refine CW.cc [] (qas a hl) Tryz.call165 9999 ?_
 simp
 refine CW.cc [385] (zpo (a.map Res.key) (.fn (.func 166) [] [.pro [idxD b]]) (fun k => (getR b k).isSome) (fun k hk => FnOk.clo (by exact xae b k) Tryz.call166 rfl rfl) (by simpa using hl)) Tryz.call164 9999 ?_
 simp
 first | exact fin0 (by simp [zca, zda]) rfl | exact zaa (by simp [zca, zda])
end Go.Proofs.YtbmnaehodmgibaaGreatDoor
end
section
namespace Go.G
open Go.AI
def tK (s : Store) (k : Nat) : Store := ⟨capN s.cap, [] :: (s.hist.drop 1).take k⟩
theorem qf1 (s : Store) : tK s 0 = newS s.cap := rfl
theorem qe0 {s : Store} {k : Nat} : zam (tK s k) = [] ∨ zam (tK s k) ∈ s.hist := by
 rcases zlb (s := tK s k) with h | h
 ·exact .inl h
 ·rcases List.mem_cons.1 h with h | h
  ·exact .inl h
  ·exact .inr (List.mem_of_mem_drop (List.mem_of_mem_take h))
theorem qsf {s : Store} {k : Nat} (hs : OkStore s) : OkRs (zam (tK s k)) := by
 rcases qe0 (s := s) (k := k) with h | h
 ·rw [h]; exact ⟨by simp, by simp⟩
 ·exact hs.all _ h
theorem qis {s : Store} {k : Nat} (hf : ∀ l ∈ s.hist, l.length ≤ 1000) : (zam (tK s k)).length ≤ 1000 := by
 rcases qe0 (s := s) (k := k) with h | h
 ·rw [h]; simp
 ·exact hf _ h
theorem zvj {now l : List Res} {v : Int} (h : OkRs l) : OkRs (zbg now l v) := by
 refine ⟨by simpa [zbg] using h.len, fun r hr => ?_⟩
 simp only [zbg, List.mem_map] at hr
 obtain ⟨q, hq, rfl⟩ := hr
 have := h.all q hq
 exact ⟨this.1, this.2, this.3, this.4, this.5⟩
theorem qc7 {a b : List Res} (h : OkRs b) : OkRs (zca a b) :=
 ⟨Nat.le_trans (List.length_filter_le _ _) h.len, fun r hr => h.all r (List.mem_filter.1 hr).1⟩
theorem diffA_len (a b : List Res) : (zca a b).length ≤ b.length := List.length_filter_le _ _
theorem diffG_len (a b : List Res) : (zda a b).length ≤ a.length := by
 have := List.length_filter_le (fun k => !(getR b k).isSome) (a.map Res.key)
 simpa [zda] using this
end Go.G
namespace Go.Proofs.YtbmnaehodmgibaaGreatDoor
open Go.AI Go.G
set_option maxRecDepth 20000
attribute [simp] Tryz.ntmps33 Tryz.results33
theorem zzs (s : Store) (hs : OkStore s) (hf : ∀ l ∈ s.hist, l.length ≤ 1000) : Ct Tryz.prog 33 [st (za5 s)] [] [] (bool (sanS s)) [] := by
 refine Ct.B Tryz.func33 mixed 9999 400 ?_
 simp
 refine CW.p (zmz s.cap) Tryz.call88 9999 ?_
 simp
 by_cases c1 : s.cap = capN s.cap
 ·by_cases c2 : (s.hist.length : Int) < 1
  ·have e : sanS s = false := by
    have : ¬ 1 ≤ s.hist.length := by omega
    simp [sanS, this]
   rw [e]
   simp [decide_eq_true c1, decide_eq_true c2]
   refine ⟨by decide +kernel, ?_⟩
   first | exact fin0 (by simp) rfl | exact zaa (by simp)
  ·by_cases c3 : (100000 : Int) < s.hist.length
   ·have e : sanS s = false := by
     have : ¬ s.hist.length ≤ 100000 := by omega
     simp [sanS, this]
    rw [e]
    simp [decide_eq_true c1, decide_eq_false c2, decide_eq_true c3]
    refine ⟨by decide +kernel, ?_⟩
    first | exact fin0 (by simp) rfl | exact zaa (by simp)
   ·have h0 : 0 < s.hist.length := by omega
    obtain ⟨x0, hx0⟩ : ∃ x0, s.hist[0]? = some x0 := ⟨_, List.getElem?_eq_getElem h0⟩
    simp [decide_eq_true c1, decide_eq_false c2, decide_eq_false c3, hx0]
    refine ⟨by decide +kernel, ?_⟩
    have hhd : s.hist.headD [] = x0 := by
     cases hh : s.hist with
     | nil => rw [hh] at h0; simp at h0
     | cons y ys => rw [hh] at hx0; simpa using hx0
    refine sB (fun c4 => ?_) (fun c4 => ?_) <;> simp only [c4] <;> simp <;> (try simp only [nT, nF, dT, dF] at c4)
    ·have e : sanS s = false := by
      have : ¬ s.hist.headD [] = [] := by
       rw [hhd]; intro h; rw [h] at c4; simp at c4
      simp only [sanS, decide_eq_false this, Bool.and_false, Bool.false_and]
     rw [e]
     first | exact fin0 (by simp) rfl | exact zaa (by simp)
    ·have hxe : x0 = [] := by
      cases x0 with
      | nil => rfl
      | cons y ys => exact absurd (by simp) c4
     have hsan : sanS s = zc6 (tK s 0) ((s.hist.drop 1).drop 0) := by
      have a1 : 1 ≤ s.hist.length := by omega
      have a2 : s.hist.length ≤ 100000 := by omega
      rw [qf1, List.drop_zero]
      simp only [sanS, decide_eq_true c1, decide_eq_true a1, decide_eq_true a2, decide_eq_true (hhd.trans hxe), Bool.true_and]
     refine CW.p (zz6 s.cap) Tryz.call48 9999 ?_
     simp
     refine ⟨by omega, ?_⟩
     have hdl : (s.hist.drop 1).length ≤ 100000 := by simp; omega
     have hdm : ∀ y ∈ s.hist.drop 1, y.length ≤ 1000 := fun y hy => hf y (List.mem_of_mem_drop hy)
     have hmm : ∀ y ∈ s.hist.drop 1, y ∈ s.hist := fun y hy => List.mem_of_mem_drop hy
     have htl : ∀ k, (tK s k).hist.length ≤ 100001 := fun k => by simp [tK]; omega
     have hte : ∀ k, ¬ (tK s k).hist = [] := fun k => by simp [tK]
     have htk : ∀ (k : Nat) (y : List Res), (s.hist.drop 1).take (k + 1) = (s.hist.drop 1).take k ++ [y] → tK s (k + 1) = ⟨(tK s k).cap, (tK s k).hist ++ [y]⟩ := fun k y h => by simp only [tK, h, List.cons_append]
     have ht0 : newS s.cap = tK s 0 := rfl
     have ht1 : (List.map rsC s.hist).tail = List.map rsC (s.hist.drop 1) := by rw [← List.drop_one, List.map_drop]
     have ht2 : s.hist.length - 1 = (s.hist.drop 1).length := by simp
     have hok : ∀ k, OkRs (zam (tK s k)) := fun k => qsf hs
     have hll : ∀ k, (zam (tK s k)).length ≤ 1000 := fun k => qis hf
     obtain ⟨d, hdd⟩ : ∃ d, s.hist.drop 1 = d := ⟨_, rfl⟩
     obtain ⟨T, hT⟩ : ∃ T, tK s = T := ⟨_, rfl⟩
     rw [hT] at ht0 htk hte htl hok hll hsan
     rw [hdd] at hmm ht1 ht2 hdl hdm htk hsan
     rw [List.drop_zero] at hsan
     rw [hsan]
     refine LoopW.inv mixed (Plain.retC _ _ _ _ _) rfl (ι := {k : Nat // k ≤ (d).length ∧ zc6 (T 0) d = zc6 (T k) (d.drop k)}) (fun k => [(3, .ptr 64 0), (39, lst (d.map rsC)), (40, int d.length), (41, int k.1)]) (fun k => [(64, .cells ((za5 (T k.1)).map .d) 54)]) 65 (fun k => (d).length - k.1) ⟨0, by omega, by simp⟩ [] (by constructor <;> simp [ht1, ht2, ht0]) ?_
     rintro ⟨k, hk1, hi⟩ B hB
     refine CW.run 9999 400 rfl ?_
     simp [ht1, ht2, ht0]
     refine sB (fun h => ?_) (fun h => ?_)
     ·have hk : k < (d).length := by simpa using h
      obtain ⟨x, hx, hr, hm, ht, hd⟩ := inL hk
      have hw := wr (k := k) (by omega)
      simp only [h]
      simp [hr, hw]
      have hx1 := hdm x hm
      rw [hd] at hi
      have q1 := diffA_len (zam (T k)) x
      have q2 := diffG_len (zam (T k)) x
      have q3 := hll k
      have q4 := htl k
      have q5 := htk k x ht
      refine CW.p (zr5 (T k) (hte k) (by omega)) Tryz.call91 9999 ?_
      simp
      refine CW.p (qfk (zam (T k)) x (hok k) (by omega) (by omega)) Tryz.call90 9999 ?_
      simp
      have hp := zq1 (T k) (zca (zam (T k)) x) (zda (zam (T k)) x) (hte k) (by omega) (hok k) (by omega) (by omega)
      by_cases he : zh7 (T k) (zca (zam (T k)) x) (zda (zam (T k)) x) = 0
      ·have e : zir (T k) (zca (zam (T k)) x) (zda (zam (T k)) x) = ⟨(T k).cap, (T k).hist ++ [zgl (T k) (zca (zam (T k)) x) (zda (zam (T k)) x)]⟩ := if_pos he
       rw [e] at hp
       simp only [errA, errM, if_pos he] at hp
       refine CW.p hp Tryz.call89 9999 ?_
       simp
       refine ⟨by decide +kernel, ?_⟩
       obtain ⟨N, hN⟩ : ∃ N, zgl (T k) (zca (zam (T k)) x) (zda (zam (T k)) x) = N := ⟨_, rfl⟩
       have okN : OkRs N := by
        rw [← hN]
        exact zvj (zo1 (hok k) (qc7 (hs.all x (hmm x hm))) (by omega))
       have hl2 : zam ⟨(T k).cap, (T k).hist ++ [N]⟩ = N := by simp [zam]
       have hL := zr5 ⟨(T k).cap, (T k).hist ++ [N]⟩ (by simp) (by simp; omega)
       rw [hl2] at hL
       simp only [hN]
       refine CW.p hL Tryz.call91 9999 ?_
       simp
       refine CW.p (zel N x okN) Tryz.call43 9999 ?_
       simp
       by_cases hNx : N = x
       ·have h6 : zc6 (T 0) d = zc6 (T (k + 1)) (List.drop (k + 1) d) := by rw [hi, q5, zc6, decide_eq_true he, decide_eq_true (hN.trans hNx)]; rfl
        simp [hNx]
        refine hB _ ⟨k + 1, by omega, h6⟩ [] ?_ (by simp; omega)
        constructor <;> simp [hw, ht, q5]
       ·have e2 : zc6 (T 0) d = false := by rw [hi, zc6, decide_eq_true he, decide_eq_false (fun h => hNx (hN.symm.trans h))]; rfl
        rw [e2]
        simp [hNx]
        first | exact fin0 (by simp) rfl | exact zaa (by simp)
      ·have e : zir (T k) (zca (zam (T k)) x) (zda (zam (T k)) x) = T k := if_neg he
       rw [e] at hp
       simp only [errA, errM, if_neg he] at hp
       have e2 : zc6 (T 0) d = false := by rw [hi]; simp [zc6, he]
       rw [e2]
       refine CW.cc [] hp Tryz.call89 9999 ?_
       simp
       refine ⟨by decide +kernel, ?_⟩
       first | exact fin0 (by simp) rfl | exact zaa (by simp)
     ·have hkl : k = (d).length := by simp at h; omega
      subst hkl
      simp only [h]
      simp [List.take_length, List.drop_length]
      have e2 : zc6 (T 0) d = true := by rw [hi, List.drop_length]; rfl
      rw [e2]
      first | exact fin0 (by simp) rfl | exact zaa (by simp)
 ·have e : sanS s = false := by simp [sanS, c1]
  rw [e]
  simp [decide_eq_false c1]
  refine ⟨by decide +kernel, ?_⟩
  first | exact fin0 (by simp) rfl | exact zaa (by simp)
end Go.Proofs.YtbmnaehodmgibaaGreatDoor
end
