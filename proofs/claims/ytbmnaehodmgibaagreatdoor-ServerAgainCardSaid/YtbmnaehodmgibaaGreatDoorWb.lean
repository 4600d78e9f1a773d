/-
  LAYERS 3 to 14: the walks of keys, references, configurations, frames and views, of the reference; of the program up to configurations.
-/
import Derived.Test.YtbmnaehodmgibaaGreatDoorWa
import Derived.Test.YtbmnaehodmgibaaGreatDoorPl
set_option linter.unusedSimpArgs false
set_option linter.unusedVariables false
section
namespace Go.Proofs.YtbmnaehodmgibaaGreatDoor
open Go.AI Go.G
set_option maxRecDepth 20000
attribute [simp] Tryz.ntmps97 Tryz.results97
theorem zew (r : Res) : Ct Tryz.prog 97 [st (resC r)] [] [] (st (keyC r.key)) [] := by
 refine Ct.B Tryz.func97 mixed 9999 400 ?_
 simp
 first | exact fin0 (by simp [Res.key]) rfl | exact zaa (by simp [Res.key])
attribute [simp] Tryz.ntmps148 Tryz.results148
attribute [simp] Tryz.ntmps272 Tryz.results272
attribute [simp] Tryz.ntmps321 Tryz.results321
attribute [simp] Tryz.ntmps274 Tryz.results274
end Go.Proofs.YtbmnaehodmgibaaGreatDoor
end
section
namespace Go.Proofs.YtbmnaehodmgibaaGreatDoor
open Go.AI Go.G
set_option maxRecDepth 20000
attribute [simp] Tryz.ntmps58 Tryz.results58
theorem zpc (a b : List Key) (hl : a.length ≤ 9223372036854775807) : Ct Tryz.prog 58 [lst (a.map keyC), lst (b.map keyC)] [] [] (bool (decide (a = b))) [] := by
 refine Ct.B Tryz.func58 mixed 9999 400 ?_
 simp
 refine sB (fun h1 => ?_) (fun h1 => ?_) <;> simp only [h1] <;> simp <;> (try simp only [nT, nF, dT, dF] at h1)
 ·have e : ¬ a = b := fun e => h1 (by rw [e])
  first | exact fin0 (by simp [e]) rfl | exact zaa (by simp [e])
 have hab : a.length = b.length := by omega
 refine LoopW.inv mixed (Plain.retC _ _ _ _ _) rfl (ι := {k : Nat // k ≤ (a).length ∧ a.take k = b.take k}) (fun k => [(0, lst (a.map keyC)), (1, lst (b.map keyC)), (5, int k.1)]) (fun k => []) 64 (fun k => (a).length - k.1) ⟨0, by omega, by simp⟩ [] (by constructor <;> simp) ?_
 rintro ⟨k, hk1, hi⟩ B hB
 refine CW.run 9999 400 rfl ?_
 simp
 refine sB (fun h => ?_) (fun h => ?_)
 ·have hk : k < (a).length := by simpa using h
  obtain ⟨x, hx, hr, hm, ht, hd⟩ := inL hk
  have hw := wr (k := k) (by omega)
  simp only [h]
  simp [hr, hw]
  have hrb : b[k]? = some b[k] := List.getElem?_eq_getElem (by omega)
  have htb : b.take (k + 1) = b.take k ++ [b[k]] := by rw [List.take_add_one, hrb]; rfl
  have hne : x ≠ b[k] → a ≠ b := by
   intro h2 e; subst e; rw [hr] at hrb; cases hrb; exact h2 rfl
  generalize b[k] = y at hrb htb hne
  have hxy : (decide (x.kind = y.kind) && decide (x.name = y.name)) = decide (x = y) := by
   obtain ⟨p, q⟩ := x; obtain ⟨u, v⟩ := y
   simp [Key.mk.injEq]
  simp [hrb]
  refine ⟨by decide +kernel, ?_⟩
  refine sB (fun h2 => ?_) (fun h2 => ?_) <;> simp only [h2] <;> simp [hr, hrb] <;> (try simp only [nT, nF, dT, dF] at h2)
  ·have h3 : ¬ x = y := by
    rw [← Bool.not_and, hxy] at h2; simpa using h2
   first | exact fin0 (by simp [hne h3]) rfl | exact zaa (by simp [hne h3])
  ·have h3 : x = y := by
    rw [← Bool.not_and, hxy] at h2; simpa using h2
   refine hB _ ⟨k + 1, by omega, by rw [ht, htb, hi, h3]⟩ [] ?_ (by simp; omega)
   constructor <;> simp [hw]
 ·have hkl : k = (a).length := by simp at h; omega
  subst hkl
  simp only [h]
  simp [List.take_length, List.drop_length]
  have e : a = b := by
   rw [List.take_length, hab, List.take_length] at hi; exact hi
  first | exact fin0 (by simp [e]) rfl | exact zaa (by simp [e])
attribute [simp] Tryz.ntmps117 Tryz.results117
theorem qea (r : Res) (hl : r.rules.length ≤ 9223372036854775807) : Ct Tryz.prog 117 [st (resC r)] [] [] (bool (ze6 r)) [] := by
 refine Ct.B Tryz.func117 mixed 9999 400 ?_
 simp
 refine LoopW.inv mixed (Plain.retC _ _ _ _ _) rfl (ι := {k : Nat // k ≤ (r.rules).length ∧ (r.rules.take k).all zd5 = true}) (fun k => [(1, .ptr 64 0), (3, int k.1)]) (fun k => [(64, .cells ((resC r).map .d) 85)]) 65 (fun k => (r.rules).length - k.1) ⟨0, by omega, by simp⟩ [] (by constructor <;> simp) ?_
 rintro ⟨k, hk1, hi⟩ B hB
 refine CW.run 9999 400 rfl ?_
 simp
 refine sB (fun h => ?_) (fun h => ?_)
 ·have hk : k < (r.rules).length := by simpa using h
  obtain ⟨x, hx, hr, hm, ht, hd⟩ := inL hk
  have hw := wr (k := k) (by omega)
  simp only [h]
  simp [hr, hw]
  have ef : zd5 x = false → ze6 r = false := fun e => by
   have : r.rules.all zd5 = false := by rw [List.all_eq_false]; exact ⟨x, hm, by simp [e]⟩
   simp only [ze6, this, Bool.false_and]
  have s1 := zc5 x.host
  have s2 := zc5 x.pre
  refine sG (fun h1 => ?_) (fun h1 => ?_) <;> simp only [h1] <;> simp [hr] <;> (try simp only [nT, nF, dT, dF] at h1)
  ·first | exact fin0 (by simp [ef (by simp [zd5]; omega)]) rfl | exact zaa (by simp [ef (by simp [zd5]; omega)])
  refine sG (fun h2 => ?_) (fun h2 => ?_) <;> simp only [h2] <;> simp [hr] <;> (try simp only [nT, nF, dT, dF] at h2)
  ·first | exact fin0 (by simp [ef (by simp [zd5]; omega)]) rfl | exact zaa (by simp [ef (by simp [zd5]; omega)])
  refine sB (fun h3 => ?_) (fun h3 => ?_) <;> simp only [h3] <;> simp [hr] <;> (try simp only [nT, nF, dT, dF] at h3)
  ·first | exact fin0 (by simp [ef (by simp [zd5]; omega)]) rfl | exact zaa (by simp [ef (by simp [zd5]; omega)])
  ·have e : zd5 x = true := by simp [zd5]; omega
   refine hB _ ⟨k + 1, by omega, by simp [ht, hi, e]⟩ [] ?_ (by simp; omega)
   constructor <;> simp [hw, ht, e]
 ·have hkl : k = (r.rules).length := by simp at h; omega
  subst hkl
  simp only [h]
  simp [List.take_length, List.drop_length]
  rw [List.take_length] at hi
  have s3 := zc5 r.name
  have s4 := zc5 r.to
  refine sG (fun g1 => ?_) (fun g1 => ?_) <;> simp only [g1] <;> simp <;> (try simp only [nT, nF, dT, dF] at g1)
  ·have a1 : r.rules.length ≤ 20 := by omega
   refine sG (fun g2 => ?_) (fun g2 => ?_) <;> simp only [g2] <;> simp <;> (try simp only [nT, nF, dT, dF] at g2)
   ·have a2 : r.hosts.length ≤ 20 := by omega
    refine sG (fun g3 => ?_) (fun g3 => ?_) <;> simp only [g3] <;> simp <;> (try simp only [nT, nF, dT, dF] at g3)
    ·have a3 : (bs r.name).length ≤ 100 := by omega
     by_cases g4 : (bs r.to).length ≤ 100
     ·exact fin0 (by simp [ze6, hi, a1, a2, a3, g4, s4]; try omega) rfl
     ·exact fin0 (by simp [ze6, hi, a1, a2, a3, g4, s4]; try omega) rfl
    ·have a3 : ¬ (bs r.name).length ≤ 100 := by omega
     first | exact fin0 (by simp [ze6, a3]) rfl | exact zaa (by simp [ze6, a3])
   ·have a2 : ¬ r.hosts.length ≤ 20 := by omega
    first | exact fin0 (by simp [ze6, a2]) rfl | exact zaa (by simp [ze6, a2])
  ·have a1 : ¬ r.rules.length ≤ 20 := by omega
   first | exact fin0 (by simp [ze6, a1]) rfl | exact zaa (by simp [ze6, a1])
attribute [simp] Tryz.ntmps245 Tryz.results245
theorem qgm (a b : List Rule) (hl : a.length ≤ 9223372036854775807 ∧ ∀ x ∈ a, x.split.length ≤ 9223372036854775807) : Ct Tryz.prog 245 [lst (a.map zb4), lst (b.map zb4)] [] [] (bool (decide (a = b))) [] := by
 refine Ct.B Tryz.func245 mixed 9999 400 ?_
 simp
 obtain ⟨hl1, hl2⟩ := hl
 refine sB (fun h1 => ?_) (fun h1 => ?_) <;> simp only [h1] <;> simp <;> (try simp only [nT, nF, dT, dF] at h1)
 ·have e : ¬ a = b := fun e => h1 (by rw [e])
  first | exact fin0 (by simp [e]) rfl | exact zaa (by simp [e])
 have hab : a.length = b.length := by omega
 refine LoopW.inv mixed (Plain.retC _ _ _ _ _) rfl (ι := {k : Nat // k ≤ (a).length ∧ a.take k = b.take k}) (fun k => [(0, lst (a.map zb4)), (1, lst (b.map zb4)), (5, int k.1)]) (fun k => []) 64 (fun k => (a).length - k.1) ⟨0, by omega, by simp⟩ [] (by constructor <;> simp) ?_
 rintro ⟨k, hk1, hi⟩ B hB
 refine CW.run 9999 400 rfl ?_
 simp
 refine sB (fun h => ?_) (fun h => ?_)
 ·have hk : k < (a).length := by simpa using h
  obtain ⟨x, hx, hr, hm, ht, hd⟩ := inL hk
  have hw := wr (k := k) (by omega)
  simp only [h]
  simp [hr, hw]
  have hrb : b[k]? = some b[k] := List.getElem?_eq_getElem (by omega)
  have htb : b.take (k + 1) = b.take k ++ [b[k]] := by rw [List.take_add_one, hrb]; rfl
  have hne : x ≠ b[k] → a ≠ b := by
   intro h2 e; subst e; rw [hr] at hrb; cases hrb; exact h2 rfl
  generalize b[k] = y at hrb htb hne
  simp [hrb]
  refine sG (fun h2 => ?_) (fun h2 => ?_) <;> simp only [h2] <;> simp [hr, hrb] <;> (try simp only [nT, nF, dT, dF] at h2)
  ·refine ⟨by decide +kernel, ?_⟩
   first | exact fin0 (by simp [hne (fun e => h2 (by rw [e]))]) rfl | exact zaa (by simp [hne (fun e => h2 (by rw [e]))])
  refine sG (fun h3 => ?_) (fun h3 => ?_) <;> simp only [h3] <;> simp [hr, hrb] <;> (try simp only [nT, nF, dT, dF] at h3)
  ·refine ⟨by decide +kernel, ?_⟩
   first | exact fin0 (by simp [hne (fun e => h3 (by rw [e]))]) rfl | exact zaa (by simp [hne (fun e => h3 (by rw [e]))])
  refine ⟨by decide +kernel, ?_⟩
  refine sB (fun h4 => ?_) (fun h4 => ?_) <;> simp only [h4] <;> simp [hr, hrb] <;> (try simp only [nT, nF, dT, dF] at h4)
  ·first | exact fin0 (by simp [hne (fun e => h4 (by rw [e]))]) rfl | exact zaa (by simp [hne (fun e => h4 (by rw [e]))])
  have h4' : x.split.length = y.split.length := by omega
  have h5 := hl2 x hm
  refine LoopW.inv mixed (Plain.retC _ _ _ _ _) rfl (ι := {kj : Nat // kj ≤ (x.split).length ∧ x.split.take kj = y.split.take kj}) (fun kj => [(0, lst (a.map zb4)), (1, lst (b.map zb4)), (5, int k), (6, int kj.1)]) (fun kj => []) 64 (fun kj => (x.split).length - kj.1) ⟨0, by omega, by simp⟩ [] (by constructor <;> simp [hr]) ?_
  rintro ⟨kj, hk1j, hij⟩ Bj hBj
  refine CW.run 9999 400 rfl ?_
  simp [hr]
  refine sB (fun hj => ?_) (fun hj => ?_)
  ·have hkj : kj < (x.split).length := by simpa using hj
   obtain ⟨w, hxj, hrj, hmj, htj, hdj⟩ := inL hkj
   have hwj := wr (k := kj) (by omega)
   simp only [hj]
   simp [hrj, hwj, hr, hrb]
   have hrc : y.split[kj]? = some y.split[kj] := List.getElem?_eq_getElem (by omega)
   have htc : y.split.take (kj + 1) = y.split.take kj ++ [y.split[kj]] := by rw [List.take_add_one, hrc]; rfl
   have hnc : w ≠ y.split[kj] → x ≠ y := by
    intro h2 e; subst e; rw [hrj] at hrc; cases hrc; exact h2 rfl
   generalize y.split[kj] = v at hrc htc hnc
   have hwv : (decide (w.cluster = v.cluster) && decide (w.w = v.w)) = decide (w = v) := by
    obtain ⟨p, q⟩ := w; obtain ⟨u, t⟩ := v
    simp [Weight.mk.injEq]
   simp [hrc, hr, hrb, hrj]
   refine ⟨by decide +kernel, ?_⟩
   refine sB (fun h6 => ?_) (fun h6 => ?_) <;> simp only [h6] <;> simp [hr, hrb, hrj, hrc] <;> (try simp only [nT, nF, dT, dF] at h6)
   ·have h7 : ¬ w = v := by
     rw [← Bool.not_and, hwv] at h6; simpa using h6
    first | exact fin0 (by simp [hne (hnc h7)]) rfl | exact zaa (by simp [hne (hnc h7)])
   ·have h7 : w = v := by
     rw [← Bool.not_and, hwv] at h6; simpa using h6
    refine hBj _ ⟨kj + 1, by omega, by rw [htj, htc, hij, h7]⟩ [] ?_ (by simp; omega)
    constructor <;> simp [hwj]
  ·have hklj : kj = (x.split).length := by simp at hj; omega
   subst hklj
   simp only [hj]
   simp [List.take_length, List.drop_length, hw]
   have e : x = y := by
    rw [List.take_length, h4', List.take_length] at hij
    obtain ⟨p, q, t⟩ := x; obtain ⟨p', q', t'⟩ := y
    simp only at h2 h3 hij
    rw [h2, h3, hij]
   refine hB _ ⟨k + 1, by omega, by rw [ht, htb, hi, e]⟩ [] ?_ (by simp; omega)
   constructor <;> simp [hw]
 ·have hkl : k = (a).length := by simp at h; omega
  subst hkl
  simp only [h]
  simp [List.take_length, List.drop_length]
  have e : a = b := by
   rw [List.take_length, hab, List.take_length] at hi; exact hi
  first | exact fin0 (by simp [e]) rfl | exact zaa (by simp [e])
end Go.Proofs.YtbmnaehodmgibaaGreatDoor
end
section
namespace Go.Proofs.YtbmnaehodmgibaaGreatDoor
open Go.AI Go.G
set_option maxRecDepth 20000
attribute [simp] Tryz.ntmps182 Tryz.results182
theorem qii (a b : Res) (hl : OkRes a) : Ct Tryz.prog 182 [st (resC a), st (resC b)] [] [] (bool (za0 a b)) [] := by
 refine Ct.B Tryz.func182 mixed 9999 400 ?_
 simp
 refine sG (fun h1 => ?_) (fun h1 => ?_) <;> simp only [h1] <;> simp <;> (try simp only [nT, nF, dT, dF] at h1)
 ·first | exact fin0 (by simp [za0, h1]) rfl | exact zaa (by simp [za0, h1])
 refine sG (fun h2 => ?_) (fun h2 => ?_) <;> simp only [h2] <;> simp <;> (try simp only [nT, nF, dT, dF] at h2)
 ·first | exact fin0 (by simp [za0, h2]) rfl | exact zaa (by simp [za0, h2])
 refine sG (fun h3 => ?_) (fun h3 => ?_) <;> simp only [h3] <;> simp <;> (try simp only [nT, nF, dT, dF] at h3)
 ·first | exact fin0 (by simp [za0, h3]) rfl | exact zaa (by simp [za0, h3])
 refine sG (fun h4 => ?_) (fun h4 => ?_) <;> simp only [h4] <;> simp <;> (try simp only [nT, nF, dT, dF] at h4)
 ·first | exact fin0 (by simp [za0, h4]) rfl | exact zaa (by simp [za0, h4])
 refine sB (fun h5 => ?_) (fun h5 => ?_) <;> simp only [h5] <;> simp <;> (try simp only [nT, nF, dT, dF] at h5)
 ·have e : ¬ a.hosts = b.hosts := fun e => h5 (by rw [e])
  first | exact fin0 (by simp [za0, e]) rfl | exact zaa (by simp [za0, e])
 have hab : a.hosts.length = b.hosts.length := by omega
 have hh := hl.hosts
 refine LoopW.inv mixed (Plain.retC _ _ _ _ _) rfl (ι := {k : Nat // k ≤ (a.hosts).length ∧ a.hosts.take k = b.hosts.take k}) (fun k => [(2, .ptr 64 0), (3, .ptr 65 0), (5, int k.1)]) (fun k => [(64, .cells ((resC a).map .d) 85), (65, .cells ((resC b).map .d) 85)]) 66 (fun k => (a.hosts).length - k.1) ⟨0, by omega, by simp⟩ [] (by constructor <;> simp) ?_
 rintro ⟨k, hk1, hi⟩ B hB
 refine CW.run 9999 400 rfl ?_
 simp
 refine sB (fun h => ?_) (fun h => ?_)
 ·have hk : k < (a.hosts).length := by simpa using h
  obtain ⟨x, hx, hr, hm, ht, hd⟩ := inL hk
  have hw := wr (k := k) (by omega)
  simp only [h]
  simp [hr, hw]
  have hrb : b.hosts[k]? = some b.hosts[k] := List.getElem?_eq_getElem (by omega)
  have htb : b.hosts.take (k + 1) = b.hosts.take k ++ [b.hosts[k]] := by rw [List.take_add_one, hrb]; rfl
  have hne : x ≠ b.hosts[k] → a.hosts ≠ b.hosts := by
   intro h2 e; exact h2 (Option.some.inj (by rw [← hr, ← hrb, e]))
  generalize b.hosts[k] = y at hrb htb hne
  simp [hrb]
  refine ⟨by decide +kernel, ?_⟩
  refine sB (fun h6 => ?_) (fun h6 => ?_) <;> simp only [h6] <;> simp [hr, hrb] <;> (try simp only [nT, nF, dT, dF] at h6)
  ·have e : ¬ a.hosts = b.hosts := hne h6
   first | exact fin0 (by simp [za0, e]) rfl | exact zaa (by simp [za0, e])
  ·have h6' : x = y := by omega
   refine hB _ ⟨k + 1, by omega, by rw [ht, htb, hi, h6']⟩ [] ?_ (by simp; omega)
   constructor <;> simp [hw]
 ·have hkl : k = (a.hosts).length := by simp at h; omega
  subst hkl
  simp only [h]
  simp [List.take_length, List.drop_length]
  have e : a.hosts = b.hosts := by
   rw [List.take_length, hab, List.take_length] at hi; exact hi
  refine CW.p (qgm a.rules b.rules ⟨hl.rules, hl.split⟩) Tryz.call245 9999 ?_
  simp
  first | exact fin0 (by simp [za0, h1, h2, h3, h4, e]) rfl | exact zaa (by simp [za0, h1, h2, h3, h4, e])
attribute [simp] Tryz.ntmps111 Tryz.results111
theorem qiz (a b : Res) (hl : OkRes a) : Ct Tryz.prog 111 [st (resC a), st (resC b)] [] [] (bool (decide (a = b))) [] := by
 refine Ct.B Tryz.func111 mixed 9999 400 ?_
 simp
 refine CW.p (qii a b hl) Tryz.call182 9999 ?_
 simp
 rw [← zn8]
 refine sG (fun h1 => ?_) (fun h1 => ?_) <;> simp only [h1] <;> simp <;> (try simp only [nT, nF, dT, dF] at h1)
 ·first | exact fin0 (by simp [h1]) rfl | exact zaa (by simp [h1])
 ·first | exact fin0 (by simp [h1]) rfl | exact zaa (by simp [h1])
attribute [simp] Tryz.ntmps45 Tryz.results45
theorem qih (a b : List Res) (hl : OkRs a) : Ct Tryz.prog 45 [lst (a.map resC), lst (b.map resC)] [] [] (bool (decide (a = b))) [] := by
 refine Ct.B Tryz.func45 mixed 9999 400 ?_
 simp
 refine sB (fun h1 => ?_) (fun h1 => ?_) <;> simp only [h1] <;> simp <;> (try simp only [nT, nF, dT, dF] at h1)
 ·have e : ¬ a = b := fun e => h1 (by rw [e])
  first | exact fin0 (by simp [e]) rfl | exact zaa (by simp [e])
 have hab : a.length = b.length := by omega
 have hh := hl.len
 refine LoopW.inv mixed (Plain.retC _ _ _ _ _) rfl (ι := {k : Nat // k ≤ (a).length ∧ a.take k = b.take k}) (fun k => [(0, lst (a.map resC)), (1, lst (b.map resC)), (5, int k.1)]) (fun k => []) 64 (fun k => (a).length - k.1) ⟨0, by omega, by simp⟩ [] (by constructor <;> simp) ?_
 rintro ⟨k, hk1, hi⟩ B hB
 refine CW.run 9999 400 rfl ?_
 simp
 refine sB (fun h => ?_) (fun h => ?_)
 ·have hk : k < (a).length := by simpa using h
  obtain ⟨x, hx, hr, hm, ht, hd⟩ := inL hk
  have hw := wr (k := k) (by omega)
  simp only [h]
  simp [hr, hw]
  have hrb : b[k]? = some b[k] := List.getElem?_eq_getElem (by omega)
  have htb : b.take (k + 1) = b.take k ++ [b[k]] := by rw [List.take_add_one, hrb]; rfl
  have hne : x ≠ b[k] → a ≠ b := by
   intro h2 e; subst e; rw [hr] at hrb; cases hrb; exact h2 rfl
  generalize b[k] = y at hrb htb hne
  simp [hrb]
  refine CW.p (qiz x y (hl.all x hm)) Tryz.call111 9999 ?_
  simp
  refine ⟨by decide +kernel, ?_⟩
  refine sB (fun h2 => ?_) (fun h2 => ?_) <;> simp only [h2] <;> simp <;> (try simp only [nT, nF, dT, dF] at h2)
  ·first | exact fin0 (by simp [hne h2]) rfl | exact zaa (by simp [hne h2])
  ·refine hB _ ⟨k + 1, by omega, by rw [ht, htb, hi, h2]⟩ [] ?_ (by simp; omega)
   constructor <;> simp [hw]
 ·have hkl : k = (a).length := by simp at h; omega
  subst hkl
  simp only [h]
  simp [List.take_length, List.drop_length]
  have e : a = b := by
   rw [List.take_length, hab, List.take_length] at hi; exact hi
  first | exact fin0 (by simp [e]) rfl | exact zaa (by simp [e])
attribute [simp] Tryz.ntmps49 Tryz.results49
theorem qhv (l : List Res) (hl : OkRs l) : Ct Tryz.prog 49 [lst (l.map resC)] [] [] (bool (fewL l)) [] := by
 refine Ct.B Tryz.func49 mixed 9999 400 ?_
 simp
 have hh := hl.len
 refine LoopW.inv mixed (Plain.retC _ _ _ _ _) rfl (ι := {k : Nat // k ≤ (l).length ∧ (l.take k).all ze6 = true}) (fun k => [(0, lst (l.map resC)), (3, int k.1)]) (fun k => []) 64 (fun k => (l).length - k.1) ⟨0, by omega, by simp⟩ [] (by constructor <;> simp) ?_
 rintro ⟨k, hk1, hi⟩ B hB
 refine CW.run 9999 400 rfl ?_
 simp
 refine sB (fun h => ?_) (fun h => ?_)
 ·have hk : k < (l).length := by simpa using h
  obtain ⟨x, hx, hr, hm, ht, hd⟩ := inL hk
  have hw := wr (k := k) (by omega)
  simp only [h]
  simp [hr, hw]
  refine CW.p (qea x (hl.all x hm).rules) Tryz.call117 9999 ?_
  simp
  refine sB (fun h1 => ?_) (fun h1 => ?_) <;> simp only [h1] <;> simp <;> (try simp only [nT, nF, dT, dF] at h1)
  ·have e : l.all ze6 = false := by rw [List.all_eq_false]; exact ⟨x, hm, by simp [h1]⟩
   first | exact fin0 (by simp [fewL, e]) rfl | exact zaa (by simp [fewL, e])
  ·refine hB _ ⟨k + 1, by omega, by simp [ht, hi, h1]⟩ [] ?_ (by simp; omega)
   constructor <;> simp [hw, ht, h1]
 ·have hkl : k = (l).length := by simp at h; omega
  subst hkl
  simp only [h]
  simp [List.take_length, List.drop_length]
  rw [List.take_length] at hi
  exact fin0 (by simp [fewL, hi]; try omega) rfl
attribute [simp] Tryz.ntmps211 Tryz.results211
attribute [simp] Tryz.ntmps212 Tryz.results212
attribute [simp] Tryz.ntmps147 Tryz.results147
end Go.Proofs.YtbmnaehodmgibaaGreatDoor
end
section
namespace Go.Proofs.YtbmnaehodmgibaaGreatDoor
open Go.AI Go.G
set_option maxRecDepth 20000
attribute [simp] Tryz.ntmps273 Tryz.results273
attribute [simp] Tryz.ntmps213 Tryz.results213
attribute [simp] Tryz.ntmps36 Tryz.results36
attribute [simp] Tryz.ntmps216 Tryz.results216
attribute [simp] Tryz.ntmps11 Tryz.results11
theorem qj5 (f : G.Frame) (hl : OkFrame f) : Ct Tryz.prog 11 [st (zak f)] [] [] (bool (fewF f)) [] := by
 refine Ct.B Tryz.func11 mixed 9999 400 ?_
 simp
 have hh := hl.have_
 refine LoopW.inv mixed (Plain.retC _ _ _ _ _) rfl (ι := {k : Nat // k ≤ (f.have_).length ∧ ((f.have_.take k).all fun m => decide ((bs m.k.name).length ≤ 100)) = true}) (fun k => [(1, .ptr 64 0), (3, int k.1)]) (fun k => [(64, .cells ((zak f).map .d) 31)]) 65 (fun k => (f.have_).length - k.1) ⟨0, by omega, by simp⟩ [] (by constructor <;> simp) ?_
 rintro ⟨k, hk1, hi⟩ B hB
 refine CW.run 9999 400 rfl ?_
 simp
 refine sB (fun h => ?_) (fun h => ?_)
 ·have hk : k < (f.have_).length := by simpa using h
  obtain ⟨x, hx, hr, hm, ht, hd⟩ := inL hk
  have hw := wr (k := k) (by omega)
  simp only [h]
  simp [hr, hw]
  have s1 := zc5 x.k.name
  refine sB (fun h1 => ?_) (fun h1 => ?_) <;> simp only [h1] <;> simp [hr, s1] <;> (try simp only [nT, nF, dT, dF] at h1)
  ·have e : (f.have_.all fun m => decide ((bs m.k.name).length ≤ 100)) = false := by
    rw [List.all_eq_false]; exact ⟨x, hm, by simp; omega⟩
   first | exact fin0 (by simp [fewF, e]) rfl | exact zaa (by simp [fewF, e])
  ·have e : (bs x.k.name).length ≤ 100 := by omega
   refine hB _ ⟨k + 1, by omega, by simp [ht, hi, e]⟩ [] ?_ (by simp; omega)
   constructor <;> simp [hw, ht, e]
 ·have hkl : k = (f.have_).length := by simp at h; omega
  subst hkl
  simp only [h]
  simp [List.take_length, List.drop_length]
  rw [List.take_length] at hi
  refine CW.p (qhv f.adds hl.adds) Tryz.call49 9999 ?_
  simp
  refine sG (fun h1 => ?_) (fun h1 => ?_) <;> simp only [h1] <;> simp <;> (try simp only [nT, nF, dT, dF] at h1)
  ·refine sG (fun h2 => ?_) (fun h2 => ?_) <;> simp only [h2] <;> simp <;> (try simp only [nT, nF, dT, dF] at h2)
   ·have a2 : f.gone.length ≤ 80 := by omega
    refine sG (fun h3 => ?_) (fun h3 => ?_) <;> simp only [h3] <;> simp <;> (try simp only [nT, nF, dT, dF] at h3)
    ·have a3 : f.have_.length ≤ 80 := by omega
     exact fin0 (by simp [fewF, hi, h1, a2, a3]; try omega) rfl
    ·have a3 : ¬ f.have_.length ≤ 80 := by omega
     first | exact fin0 (by simp [fewF, a3]) rfl | exact zaa (by simp [fewF, a3])
   ·have a2 : ¬ f.gone.length ≤ 80 := by omega
    first | exact fin0 (by simp [fewF, a2]) rfl | exact zaa (by simp [fewF, a2])
  ·first | exact fin0 (by simp [fewF, h1]) rfl | exact zaa (by simp [fewF, h1])
end Go.Proofs.YtbmnaehodmgibaaGreatDoor
end
section
namespace Go.Proofs.YtbmnaehodmgibaaGreatDoor
open Go.AI Go.G
set_option maxRecDepth 20000
theorem qbb {a b : G.Frame} (h1 : a.type = b.type) (h2 : a.epoch = b.epoch) (h3 : a.kind = b.kind) (h4 : a.nonce = b.nonce) (h5 : a.turn = b.turn) (h6 : a.err = b.err) (h7 : a.have_ = b.have_) : decide (a = b) = (decide (a.adds = b.adds) && decide (a.gone = b.gone) && decide (a.held = b.held)) := by
 obtain ⟨a1, a2, a3, a4, a5, a6, a7, a8, a9, a10⟩ := a
 obtain ⟨b1, b2, b3, b4, b5, b6, b7, b8, b9, b10⟩ := b
 simp only at h1 h2 h3 h4 h5 h6 h7
 subst h1 h2 h3 h4 h5 h6 h7
 rw [Bool.eq_iff_iff]; simp [and_assoc]
attribute [simp] Tryz.ntmps59 Tryz.results59
theorem zzi (a b : G.Frame) (hl : OkFrame a) : Ct Tryz.prog 59 [st (zak a), st (zak b)] [] [] (bool (decide (a = b))) [] := by
 refine Ct.B Tryz.func59 mixed 9999 400 ?_
 simp
 refine sG (fun h1 => ?_) (fun h1 => ?_) <;> simp only [h1] <;> simp <;> (try simp only [nT, nF, dT, dF] at h1)
 ·have e : ¬ a = b := fun e => h1 (by rw [e])
  first | exact fin0 (by simp [e]) rfl | exact zaa (by simp [e])
 refine sG (fun h2 => ?_) (fun h2 => ?_) <;> simp only [h2] <;> simp <;> (try simp only [nT, nF, dT, dF] at h2)
 ·have e : ¬ a = b := fun e => h2 (by rw [e])
  first | exact fin0 (by simp [e]) rfl | exact zaa (by simp [e])
 refine sG (fun h3 => ?_) (fun h3 => ?_) <;> simp only [h3] <;> simp <;> (try simp only [nT, nF, dT, dF] at h3)
 ·have e : ¬ a = b := fun e => h3 (by rw [e])
  first | exact fin0 (by simp [e]) rfl | exact zaa (by simp [e])
 refine sG (fun h4 => ?_) (fun h4 => ?_) <;> simp only [h4] <;> simp <;> (try simp only [nT, nF, dT, dF] at h4)
 ·have e : ¬ a = b := fun e => h4 (by rw [e])
  first | exact fin0 (by simp [e]) rfl | exact zaa (by simp [e])
 refine sG (fun h5 => ?_) (fun h5 => ?_) <;> simp only [h5] <;> simp <;> (try simp only [nT, nF, dT, dF] at h5)
 ·have e : ¬ a = b := fun e => h5 (by rw [e])
  first | exact fin0 (by simp [e]) rfl | exact zaa (by simp [e])
 refine sG (fun h6 => ?_) (fun h6 => ?_) <;> simp only [h6] <;> simp <;> (try simp only [nT, nF, dT, dF] at h6)
 ·have e : ¬ a = b := fun e => h6 (by rw [e])
  first | exact fin0 (by simp [e]) rfl | exact zaa (by simp [e])
 refine sB (fun h7 => ?_) (fun h7 => ?_) <;> simp only [h7] <;> simp <;> (try simp only [nT, nF, dT, dF] at h7)
 ·have e : ¬ a = b := fun e => h7 (by rw [e])
  first | exact fin0 (by simp [e]) rfl | exact zaa (by simp [e])
 have hab : a.have_.length = b.have_.length := by omega
 have hh := hl.have_
 refine LoopW.inv mixed (Plain.retC _ _ _ _ _) rfl (ι := {k : Nat // k ≤ (a.have_).length ∧ a.have_.take k = b.have_.take k}) (fun k => [(2, .ptr 64 0), (3, .ptr 65 0), (5, int k.1)]) (fun k => [(64, .cells ((zak a).map .d) 31), (65, .cells ((zak b).map .d) 31)]) 66 (fun k => (a.have_).length - k.1) ⟨0, by omega, by simp⟩ [] (by constructor <;> simp) ?_
 rintro ⟨k, hk1, hi⟩ B hB
 refine CW.run 9999 400 rfl ?_
 simp
 refine sB (fun h => ?_) (fun h => ?_)
 ·have hk : k < (a.have_).length := by simpa using h
  obtain ⟨x, hx, hr, hm, ht, hd⟩ := inL hk
  have hw := wr (k := k) (by omega)
  simp only [h]
  simp [hr, hw]
  have hrb : b.have_[k]? = some b.have_[k] := List.getElem?_eq_getElem (by omega)
  have htb : b.have_.take (k + 1) = b.have_.take k ++ [b.have_[k]] := by rw [List.take_add_one, hrb]; rfl
  have hne : x ≠ b.have_[k] → ¬ a = b := by
   intro h2 e; subst e; rw [hr] at hrb; cases hrb; exact h2 rfl
  generalize b.have_[k] = y at hrb htb hne
  simp [hrb]
  refine ⟨by decide +kernel, ?_⟩
  refine sB (fun h8 => ?_) (fun h8 => ?_) <;> simp only [h8] <;> simp [hr, hrb] <;> (try simp only [nT, nF, dT, dF] at h8)
  ·have e : ¬ a = b := hne (fun e => by subst e; simp at h8)
   first | exact fin0 (by simp [e]) rfl | exact zaa (by simp [e])
  ·have e : x = y := by
    have := qak x y
    rw [Bool.eq_iff_iff] at this
    simp at h8 this
    exact this.1 (by simpa [and_assoc] using h8)
   refine hB _ ⟨k + 1, by omega, by rw [ht, htb, hi, e]⟩ [] ?_ (by simp; omega)
   constructor <;> simp [hw]
 ·have hkl : k = (a.have_).length := by simp at h; omega
  subst hkl
  simp only [h]
  simp [List.take_length, List.drop_length]
  have e : a.have_ = b.have_ := by
   rw [List.take_length, hab, List.take_length] at hi; exact hi
  rw [qbb h1 h2 h3 h4 h5 h6 e]
  refine CW.p (qih a.adds b.adds hl.adds) Tryz.call45 9999 ?_
  simp
  refine sG (fun h8 => ?_) (fun h8 => ?_) <;> simp only [h8] <;> simp <;> (try simp only [nT, nF, dT, dF] at h8)
  ·refine CW.p (zpc a.gone b.gone hl.gone) Tryz.call58 9999 ?_
   simp
   refine sG (fun h9 => ?_) (fun h9 => ?_) <;> simp only [h9] <;> simp <;> (try simp only [nT, nF, dT, dF] at h9)
   ·refine CW.p (zpc a.held b.held hl.held) Tryz.call58 9999 ?_
    simp
    first | exact fin0 (by simp [h8, h9]) rfl | exact zaa (by simp [h8, h9])
   ·first | exact fin0 (by simp [h9]) rfl | exact zaa (by simp [h9])
  ·first | exact fin0 (by simp [h8]) rfl | exact zaa (by simp [h8])
end Go.Proofs.YtbmnaehodmgibaaGreatDoor
end
section
namespace Go.Proofs.YtbmnaehodmgibaaGreatDoor
open Go.AI Go.G
set_option maxRecDepth 20000
attribute [simp] Tryz.ntmps50 Tryz.results50
theorem qj3 (v : View) (hl : OkView v) : Ct Tryz.prog 50 [st (zjm v)] [] [] (bool (fewV v)) [] := by
 refine Ct.B Tryz.func50 mixed 9999 400 ?_
 simp
 refine CW.p (qhv v.have_ hl.have_) Tryz.call49 9999 ?_
 simp
 refine sG (fun h1 => ?_) (fun h1 => ?_) <;> simp only [h1] <;> simp <;> (try simp only [nT, nF, dT, dF] at h1)
 ·refine sG (fun h2 => ?_) (fun h2 => ?_) <;> simp only [h2] <;> simp <;> (try simp only [nT, nF, dT, dF] at h2)
  ·have h2' : v.held.length ≤ 80 := by omega
   refine CW.p (qj5 v.push hl.push) Tryz.call11 9999 ?_
   simp
   first | exact fin0 (by simp [fewV, h1, h2']) rfl | exact zaa (by simp [fewV, h1, h2'])
  ·have h2' : ¬ v.held.length ≤ 80 := by omega
   first | exact fin0 (by simp [fewV, h2']) rfl | exact zaa (by simp [fewV, h2'])
 ·first | exact fin0 (by simp [fewV, h1]) rfl | exact zaa (by simp [fewV, h1])
attribute [simp] Tryz.ntmps81 Tryz.results81
attribute [simp] Tryz.ntmps77 Tryz.results77
attribute [simp] Tryz.ntmps150 Tryz.results150
attribute [simp] Tryz.ntmps19 Tryz.results19
theorem qgj (a b : View) (hl : OkView a) : Ct Tryz.prog 19 [st (zjm a), st (zjm b)] [] [] (bool (decide (a = b))) [] := by
 refine Ct.B Tryz.func19 mixed 9999 400 ?_
 simp
 refine CW.p (qih a.have_ b.have_ hl.have_) Tryz.call45 9999 ?_
 simp
 refine sG (fun h1 => ?_) (fun h1 => ?_) <;> simp only [h1] <;> simp <;> (try simp only [nT, nF, dT, dF] at h1)
 ·refine CW.p (zpc a.held b.held hl.held) Tryz.call58 9999 ?_
  simp
  refine sG (fun h2 => ?_) (fun h2 => ?_) <;> simp only [h2] <;> simp <;> (try simp only [nT, nF, dT, dF] at h2)
  ·refine sG (fun h3 => ?_) (fun h3 => ?_) <;> simp only [h3] <;> simp <;> (try simp only [nT, nF, dT, dF] at h3)
   ·refine CW.p (zzi a.push b.push hl.push) Tryz.call59 9999 ?_
    simp
    refine sG (fun h4 => ?_) (fun h4 => ?_) <;> simp only [h4] <;> simp <;> (try simp only [nT, nF, dT, dF] at h4)
    ·have e : decide (a = b) = decide (a.open_ = b.open_) := by
      obtain ⟨a1, a2, a3, a4, a5⟩ := a
      obtain ⟨b1, b2, b3, b4, b5⟩ := b
      simp only at h1 h2 h3 h4
      subst h1 h2 h3 h4
      rw [Bool.eq_iff_iff]; simp
     first | exact fin0 (by simp [e]) rfl | exact zaa (by simp [e])
    ·have e : ¬ a = b := fun e => h4 (by rw [e])
     first | exact fin0 (by simp [e]) rfl | exact zaa (by simp [e])
   ·have e : ¬ a = b := fun e => h3 (by rw [e])
    first | exact fin0 (by simp [e]) rfl | exact zaa (by simp [e])
  ·have e : ¬ a = b := fun e => h2 (by rw [e])
   first | exact fin0 (by simp [e]) rfl | exact zaa (by simp [e])
 ·have e : ¬ a = b := fun e => h1 (by rw [e])
  first | exact fin0 (by simp [e]) rfl | exact zaa (by simp [e])
end Go.Proofs.YtbmnaehodmgibaaGreatDoor
end
section
namespace Go.Proofs.YtbmnaehodmgibaaGreatDoor
open Go.AI Go.G
set_option maxRecDepth 20000
attribute [simp] Tryz.ntmps292 Tryz.results292
theorem qaz (a : Int) : Ct Tryz.prog 292 [int a] [] [] (bool false) [] := by
 refine Ct.B Tryz.func292 mixed 9999 400 ?_
 simp
 first | exact fin0 (by simp) rfl | exact zaa (by simp)
attribute [simp] Tryz.ntmps226 Tryz.results226
theorem qbr (a b : Int) : Ct Tryz.prog 226 [int a, int b] [] [] (int (if a < b then -1 else if b < a then 1 else 0)) [] := by
 refine Ct.B Tryz.func226 mixed 9999 400 ?_
 simp
 refine CW.p (qaz a) Tryz.call292 9999 ?_
 simp
 refine CW.p (qaz b) Tryz.call292 9999 ?_
 simp
 refine sB (fun h1 => ?_) (fun h1 => ?_) <;> simp only [h1] <;> simp <;> (try simp only [nT, nF, dT, dF] at h1)
 ·first | exact fin0 (by simp [h1]) rfl | exact zaa (by simp [h1])
 refine sB (fun h2 => ?_) (fun h2 => ?_) <;> simp only [h2] <;> simp <;> (try simp only [nT, nF, dT, dF] at h2)
 ·first | exact fin0 (by simp [h1, h2]) rfl | exact zaa (by simp [h1, h2])
 ·first | exact fin0 (by simp [h1, h2]) rfl | exact zaa (by simp [h1, h2])
def orI (l : List Int) : Int := (l.find? fun x => !decide (x = 0)).getD 0
attribute [simp] Tryz.ntmps225 Tryz.results225
theorem or_p (l : List Int) (hl : l.length ≤ 9223372036854775807) : Ct Tryz.prog 225 [.own 0] [(0, .grow 1 (l.map intC) 3)] [] (int (orI l)) [] := by
 refine Ct.B Tryz.func225 mixed 9999 400 ?_
 simp
 refine LoopW.inv mixed (Plain.retC _ _ _ _ _) rfl (ι := {k : Nat // k ≤ (l).length ∧ (l.take k).all (fun x => !!decide (x = 0)) = true}) (fun k => [(3, int 0), (6, .own 0), (7, int l.length), (8, int k.1)]) (fun k => [(0, .grow 1 (l.map intC) 3)]) 64 (fun k => (l).length - k.1) ⟨0, by omega, by simp⟩ [] (by constructor <;> simp) ?_
 rintro ⟨k, hk1, hi⟩ B hB
 refine CW.run 9999 400 rfl ?_
 simp
 refine sB (fun h => ?_) (fun h => ?_)
 ·have hk : k < (l).length := by simpa using h
  obtain ⟨x, hx, hr, hm, ht, hd⟩ := inL hk
  have hw := wr (k := k) (by omega)
  simp only [h]
  simp [hr, hw, hk]
  refine sB (fun h1 => ?_) (fun h1 => ?_) <;> simp only [h1] <;> simp [hx] <;> (try simp only [nT, nF, dT, dF] at h1)
  ·rw [hx] at h1
   have e : orI l = x := by simp [orI, zpj hi hr (by simpa using h1)]
   first | (refine ⟨[], ?_, ?_, ?_, ?_, ?_, ?_, ?_⟩ <;> simp [nmF, inB, e, hx]; done) | (refine ⟨by decide +kernel, ?_⟩; refine ⟨[], ?_, ?_, ?_, ?_, ?_, ?_, ?_⟩ <;> simp [nmF, inB, e, hx])
  ·rw [hx] at h1
   refine hB _ ⟨k + 1, by omega, by rw [ht, List.all_append, hi]; simp [h1]⟩ [] ?_ (by simp; omega)
   constructor <;> simp [hw]
 ·have hkl : k = (l).length := by simp at h; omega
  subst hkl
  simp only [h]
  simp [List.take_length, List.drop_length]
  rw [List.take_length] at hi
  have e : orI l = 0 := by simp [orI, zms hi]
  first | (refine ⟨[], ?_, ?_, ?_, ?_, ?_, ?_, ?_⟩ <;> simp [nmF, inB, e]; done) | (refine ⟨by decide +kernel, ?_⟩; refine ⟨[], ?_, ?_, ?_, ?_, ?_, ?_, ?_⟩ <;> simp [nmF, inB, e])
attribute [simp] Tryz.ntmps170 Tryz.results170
theorem qbt (a b : Key) : Ct Tryz.prog 170 [st (keyC a), st (keyC b)] [] [] (int (cmpK a b)) [] := by
 refine Ct.B Tryz.func170 mixed 9999 400 ?_
 simp
 refine CW.p (qbr a.kind b.kind) Tryz.call226 9999 ?_
 simp
 refine CW.p (xag a.name b.name) Tryz.call227 9999 ?_
 simp
 refine CW.cc [896] (or_p [if a.kind < b.kind then -1 else if b.kind < a.kind then 1 else 0, cmpS a.name b.name] (by simp)) Tryz.call225 9999 ?_
 simp
 refine ⟨by decide +kernel, ?_⟩
 have e : orI [if a.kind < b.kind then -1 else if b.kind < a.kind then 1 else 0, cmpS a.name b.name] = cmpK a b := by
  unfold orI cmpK
  by_cases h1 : a.kind < b.kind
  ·simp [h1]
  ·by_cases h2 : b.kind < a.kind
   ·simp [h1, h2]
   ·by_cases h3 : cmpS a.name b.name = 0 <;> simp [h1, h2, h3]
 first | exact fin0 (by simp [e]) rfl | exact zaa (by simp [e])
attribute [simp] Tryz.ntmps167 Tryz.results167
theorem isP (k_ : Key) (r : Res) : Ct Tryz.prog 167 [st (resC r), .d (.pro (keyC k_))] [] [] (bool (decide (r.key = k_))) [] := by
 refine Ct.B Tryz.func167 mixed 9999 400 ?_
 simp
 refine CW.p (zew r) Tryz.call97 9999 ?_
 simp
 rw [znt]
 refine ⟨by decide +kernel, ?_⟩
 first | exact fin0 (by simp) rfl | exact zaa (by simp)
attribute [simp] Tryz.ntmps94 Tryz.results94
theorem is_p (k_ : Key) : Ct Tryz.prog 94 [st (keyC k_)] [] [] (.d (.fn (.func 167) [] [.pro (keyC k_)])) [] := by
 refine Ct.B Tryz.func94 mixed 9999 400 ?_
 simp
 first | exact fin0 (by simp) rfl | exact zaa (by simp)
attribute [simp] Tryz.ntmps35 Tryz.results35
theorem qj0 (l : List Res) (k_ : Key) (hl : l.length ≤ 9223372036854775807) : Ct Tryz.prog 35 [lst (l.map resC), st (keyC k_)] [] [] (getA l k_) [] := by
 refine Ct.B Tryz.func35 mixed 9999 400 ?_
 simp
 refine CW.p (is_p k_) Tryz.call94 9999 ?_
 simp
 refine CW.p (zug l (.fn (.func 167) [] [.pro (keyC k_)]) (fun r => decide (r.key = k_)) (fun r hr => FnOk.clo (by exact isP k_ r) Tryz.call167 rfl rfl) hl) Tryz.call93 9999 ?_
 simp
 rcases zja (fun r : Res => decide (r.key = k_)) l with ⟨h1, h2⟩ | ⟨i, x, h1, h2, h3, h4⟩
 ·have e : getR l k_ = none := h2
  simp [h1]
  first | exact fin0 (by simp [e, zRes]) rfl | exact zaa (by simp [e, zRes])
 ·have e : getR l k_ = some x := h4
  have hx : l[i] = x := by rw [List.getElem?_eq_getElem h2] at h3; exact Option.some.inj h3
  simp [h1, h2, h3, hx]
  first | exact fin0 (by simp [e]) rfl | exact zaa (by simp [e])
attribute [simp] Tryz.ntmps162 Tryz.results162
theorem zpk (l : List Res) (kf : D) (p : Res → Bool) (hf : ∀ x ∈ l, FnOk Tryz.prog (.d kf) [st (resC x)] (bool (p x))) (hl : l.length ≤ 1000000) : Ct Tryz.prog 162 [lst (l.map resC), .d kf] [] [] (lst ((l.filter p).map resC)) [] := by
 refine Ct.B Tryz.func162 mixed 9999 400 ?_
 simp
 refine LoopW.nilOwn 5 7 85 rfl ?_
 refine LoopW.U mixed (l) (fun k => [(0, lst (l.map resC)), (1, .d kf), (5, .own 64), (8, lst (l.map resC)), (9, int l.length), (10, int k.1)]) (fun k => [(64, .grow 7 (((l.take k.1).filter p).map resC) 85)]) 65 [] (by constructor <;> simp) ?_
 rintro ⟨k, hk1⟩ B hB
 refine CW.run 9999 400 rfl ?_
 simp
 refine sB (fun h => ?_) (fun h => ?_)
 ·have hk : k < (l).length := by simpa using h
  obtain ⟨x, hx, hr, hm, ht, hd⟩ := inL hk
  have hw := wr (k := k) (by omega)
  simp only [h]
  simp [hr, hw]
  have hlen : ((l.take k).filter p).length ≤ 1000000 := Nat.le_trans (List.length_filter_le _ _) (by simp; omega)
  refine CW.ff (hf x hm) rfl rfl rfl 9999 ?_
  simp
  refine sB (fun h1 => ?_) (fun h1 => ?_) <;> simp only [h1] <;> simp [hr] <;> (try simp only [nT, nF, dT, dF] at h1)
  ·refine ⟨by omega, ?_⟩
   refine hB _ ⟨k + 1, by omega⟩ [] ?_ (by simp; omega)
   constructor <;> simp [hw, ht, List.filter_append, h1]
  ·refine hB _ ⟨k + 1, by omega⟩ [] ?_ (by simp; omega)
   constructor <;> simp [hw, ht, List.filter_append, h1]
 ·have hkl : k = (l).length := by simp at h; omega
  subst hkl
  simp only [h]
  simp [List.take_length, List.drop_length]
  first | exact fin0 (by simp) rfl | exact zaa (by simp)
attribute [simp] Tryz.ntmps277 Tryz.results277
theorem qip (k_ : Key) (c : Int) (r : Res) : Ct Tryz.prog 277 [st (resC r), .d (.pro (keyC k_)), .d (.pro [iD c])] [] [] (bool (decide (cmpK r.key k_ = c))) [] := by
 refine Ct.B Tryz.func277 mixed 9999 400 ?_
 simp
 refine CW.p (zew r) Tryz.call97 9999 ?_
 simp
 refine CW.p (qbt r.key k_) Tryz.call170 9999 ?_
 simp
 refine ⟨by decide +kernel, ?_⟩
 first | exact fin0 (by simp) rfl | exact zaa (by simp)
attribute [simp] Tryz.ntmps276 Tryz.results276
theorem qey (l : List Res) (k_ : Key) (c : Int) (hl : l.length ≤ 1000000) : Ct Tryz.prog 276 [int c, .d (.pro [lD (l.map resC)]), .d (.pro (keyC k_))] [] [] (lst ((zhn l k_ c).map resC)) [] := by
 refine Ct.B Tryz.func276 mixed 1 400 ?_
 simp
 refine CW.s (tm := [(1, .d (.pro [lD (l.map resC)])), (2, .d (.pro (keyC k_))), (3, .d (.pro [iD c]))]) (mm := []) (nx := 65) [] [64] (by constructor <;> simp) ?_
 refine CW.run 9999 400 rfl ?_
 simp
 refine CW.p (zpk l (.fn (.func 277) [] [.pro (keyC k_), .pro [iD c]]) (fun r => decide (cmpK r.key k_ = c)) (fun r hr => FnOk.clo (by exact qip k_ c r) Tryz.call277 rfl rfl) hl) Tryz.call162 9999 ?_
 simp
 first | exact fin0 (by simp) rfl | exact zaa (by simp)
end Go.Proofs.YtbmnaehodmgibaaGreatDoor
end
section
namespace Go.Proofs.YtbmnaehodmgibaaGreatDoor
open Go.AI Go.G
set_option maxRecDepth 20000
abbrev qfp : List D := [iD 0, sD ⟨#[]⟩, iD 0, iD 0, sD ⟨#[]⟩, .v (.slice none 0 0), .v (.slice none 0 0)]
attribute [simp] Tryz.ntmps322 Tryz.results322
theorem qz9 (n : Int) (h0 : 0 < n) (h1 : n ≤ 2000000) : Ct Tryz.prog 322 [.d (.v (.slice none 0 0)), int n] [] [] (.sl 64 7 0 0) [(64, .grow 7 (List.replicate n.toNat qfp) 85)] := by
 refine Ct.B Tryz.func322 mixed 9999 400 ?_
 simp
 have g1 : ¬ n < 0 := by omega
 have g2 : IntKind.wrap .i64 n = n := zae (by omega) (by omega)
 simp [g1, g2, h0]
 refine ⟨⟨by omega, by omega⟩, by omega, ?_⟩
 first | (refine ⟨[(64, 1216)], ?_, ?_, ?_, ?_, ?_, ?_, ?_⟩ <;> simp [nmF, inB, qfp]; done) | (refine ⟨by decide +kernel, ?_⟩; refine ⟨[(64, 1216)], ?_, ?_, ?_, ?_, ?_, ?_, ?_⟩ <;> simp [nmF, inB, qfp])
attribute [simp] Tryz.ntmps278 Tryz.results278
theorem qh0 (a b c : List Res) (h0 : 0 < a.length + b.length + c.length) (h1 : a.length + b.length + c.length ≤ 2000000) : Ct Tryz.prog 278 [.own 0] [(0, .grow 1 [[lD (a.map resC)], [lD (b.map resC)], [lD (c.map resC)]] 26)] [] (.own 64) [(64, .grow 7 ((a ++ b ++ c).map resC) 85)] := by
 refine Ct.B Tryz.func278 mixed 9999 400 ?_
 simp
 have w1 : IntKind.wrap .i64 (a.length : Int) = a.length := zae (by omega) (by omega)
 have w2 : IntKind.wrap .i64 ((a.length : Int) + b.length) = a.length + b.length := zae (by omega) (by omega)
 have w3 : IntKind.wrap .i64 ((a.length : Int) + b.length + c.length) = a.length + b.length + c.length := zae (by omega) (by omega)
 have v1 : ¬ ((a.length : Int) < 0) := by omega
 have v2 : ¬ ((a.length : Int) + b.length < 0) := by omega
 have v3 : ¬ ((a.length : Int) + b.length + c.length < 0) := by omega
 refine LoopW.unroll mixed (Plain.retC _ _ _ _ _) rfl ?_
 refine CW.run 9999 400 rfl ?_
 simp [w1, v1]
 refine LoopW.unroll mixed (Plain.retC _ _ _ _ _) rfl ?_
 refine CW.run 9999 400 rfl ?_
 simp [w2, v2]
 refine LoopW.unroll mixed (Plain.retC _ _ _ _ _) rfl ?_
 refine CW.run 9999 400 rfl ?_
 simp [w3, v3]
 refine LoopW.unroll mixed (Plain.retC _ _ _ _ _) rfl ?_
 refine CW.run 9999 400 rfl ?_
 simp
 refine CW.cc [] (qz9 ((a.length : Int) + b.length + c.length) (by omega) (by omega)) Tryz.call322 9999 ?_
 simp
 refine LoopW.unroll mixed (Plain.retC _ _ _ _ _) rfl ?_
 refine CW.run 9999 400 rfl ?_
 simp
 refine ⟨by omega, ?_⟩
 refine LoopW.unroll mixed (Plain.retC _ _ _ _ _) rfl ?_
 refine CW.run 9999 400 rfl ?_
 simp
 refine ⟨by omega, ?_⟩
 refine LoopW.unroll mixed (Plain.retC _ _ _ _ _) rfl ?_
 refine CW.run 9999 400 rfl ?_
 simp
 refine ⟨by omega, ?_⟩
 refine LoopW.unroll mixed (Plain.retC _ _ _ _ _) rfl ?_
 refine CW.run 9999 400 rfl ?_
 simp
 first | (refine ⟨[(64, 4992)], ?_, ?_, ?_, ?_, ?_, ?_, ?_⟩ <;> simp [nmF, inB]; done) | (refine ⟨by decide +kernel, ?_⟩; refine ⟨[(64, 4992)], ?_, ?_, ?_, ?_, ?_, ?_, ?_⟩ <;> simp [nmF, inB])
attribute [simp] Tryz.ntmps218 Tryz.results218
theorem qex (l : List Res) (r : Res) (hl : l.length ≤ 1000000) : Ct Tryz.prog 218 [lst (l.map resC), st (resC r)] [] [] (lst ((zej l r).map resC)) [] := by
 refine Ct.B Tryz.func218 mixed 2 400 ?_
 simp
 refine CW.p (zew r) Tryz.call97 2 ?_
 simp
 refine CW.s (tm := [(2, .d (.pro [lD (l.map resC)])), (3, .ptr 64 0), (5, .d (.pro (keyC r.key)))]) (mm := [(64, .cells ((resC r).map .d) 85)]) (nx := 65) [(64, 128)] [64, 384] (by constructor <;> simp) ?_
 refine CW.run 9999 400 rfl ?_
 simp
 refine CW.ff (FnOk.clo (args := [int (-1)]) (by exact qey l r.key (-1) hl) Tryz.call276 rfl rfl) rfl rfl rfl 9999 ?_
 simp
 refine CW.ff (FnOk.clo (args := [int 1]) (by exact qey l r.key 1 hl) Tryz.call276 rfl rfl) rfl rfl rfl 9999 ?_
 simp
 have h1 := zp5 l r
 simp only [zej, List.length_append, List.length_cons, List.length_nil] at h1
 refine CW.cc [577] (qh0 (zhn l r.key (-1)) [r] (zhn l r.key 1) (by simp; omega) (by simp only [List.length_cons, List.length_nil]; omega)) Tryz.call278 9999 ?_
 simp
 first | exact fin0 (by simp) rfl | exact zaa (by simp)
attribute [simp] Tryz.ntmps114 Tryz.results114
theorem qbu : Ct Tryz.prog 114 [lst []] [] [] (lst []) [] := by
 refine Ct.B Tryz.func114 mixed 9999 400 ?_
 simp
 refine ⟨?_, ?_⟩
 ·first | exact fin0 (by simp) rfl | exact zaa (by simp)
 ·first | exact fin0 (by simp) rfl | exact zaa (by simp)
theorem zum (x : Res) (l : List Res) (hl : l.length ≤ 1000000) : Ct Tryz.prog 114 [lst ((x :: l).map resC)] [] [] (.own 64) [(64, .grow 7 ((x :: l).map resC) 85)] := by
 refine Ct.B Tryz.func114 mixed 9999 400 ?_
 simp
 refine ⟨by omega, ?_⟩
 first | (refine ⟨[(64, 384)], ?_, ?_, ?_, ?_, ?_, ?_, ?_⟩ <;> simp [nmF, inB]; done) | (refine ⟨by decide +kernel, ?_⟩; refine ⟨[(64, 384)], ?_, ?_, ?_, ?_, ?_, ?_, ?_⟩ <;> simp [nmF, inB])
attribute [simp] Tryz.ntmps93 Tryz.results93
theorem qdx (l : List Res) (kf : D) (p : Res → Bool) (hf : ∀ x ∈ l, FnOk Tryz.prog (.d kf) [st (resC x)] (bool (p x))) (hl : l.length ≤ 9223372036854775807) : Ct Tryz.prog 93 [.own 0, .d kf] [(0, .grow 7 (l.map resC) 85)] [] (int (idxF p l)) [] := by
 refine Ct.B Tryz.func93 mixed 9999 400 ?_
 simp
 refine LoopW.inv mixed (Plain.retC _ _ _ _ _) rfl (ι := {k : Nat // k ≤ (l).length ∧ (l.take k).all (fun x => !p x) = true}) (fun k => [(0, .own 0), (1, .d kf), (7, int l.length), (8, int k.1)]) (fun k => [(0, .grow 7 (l.map resC) 85)]) 64 (fun k => (l).length - k.1) ⟨0, by omega, by simp⟩ [] (by constructor <;> simp) ?_
 rintro ⟨k, hk1, hi⟩ B hB
 refine CW.run 9999 400 rfl ?_
 simp
 refine sB (fun h => ?_) (fun h => ?_)
 ·have hk : k < (l).length := by simpa using h
  obtain ⟨r, hx, hr, hm, ht, hd⟩ := inL hk
  have hw := wr (k := k) (by omega)
  simp only [h]
  simp [hr, hw, hk]
  refine CW.ff (hf r hm) rfl rfl rfl 9999 ?_ (ha := by simp [hx])
  simp [hx]
  refine sB (fun hp => ?_) (fun hp => ?_) <;> simp only [hp] <;> simp
  ·have e := zcl hi hr hp
   first | (refine ⟨[], ?_, ?_, ?_, ?_, ?_, ?_, ?_⟩ <;> simp [nmF, inB, e]; done) | (refine ⟨by decide +kernel, ?_⟩; refine ⟨[], ?_, ?_, ?_, ?_, ?_, ?_, ?_⟩ <;> simp [nmF, inB, e])
  ·refine hB _ ⟨k + 1, by omega, by simp [ht, hi, hp]⟩ [] ?_ (by simp; omega)
   constructor <;> simp [hw, ht, hp]
 ·have hkl : k = (l).length := by simp at h; omega
  subst hkl
  simp only [h]
  simp [List.take_length, List.drop_length]
  rw [List.take_length] at hi
  have e : idxF p l = -1 := za9 (fun x hx => by have := List.all_eq_true.1 hi x hx; simpa using this)
  first | (refine ⟨[], ?_, ?_, ?_, ?_, ?_, ?_, ?_⟩ <;> simp [nmF, inB, e]; done) | (refine ⟨by decide +kernel, ?_⟩; refine ⟨[], ?_, ?_, ?_, ?_, ?_, ?_, ?_⟩ <;> simp [nmF, inB, e])
attribute [simp] Tryz.ntmps113 Tryz.results113
theorem delE (kf : D) : Ct Tryz.prog 113 [lst [], .d kf] [] [] (lst []) [] := by
 refine Ct.B Tryz.func113 mixed 9999 400 ?_
 simp
 refine CW.p (zug [] kf (fun _ => false) (fun x hx => by simp at hx) (by simp)) Tryz.call93 9999 ?_
 simp
 simp [idxF]
 first | exact fin0 (by simp) rfl | exact zaa (by simp)
theorem delC (l : List Res) (kf : D) (p : Res → Bool) (hf : ∀ x ∈ l, FnOk Tryz.prog (.d kf) [st (resC x)] (bool (p x))) (hl : l.length ≤ 1000000) : Ct Tryz.prog 113 [.own 0, .d kf] [] [(0, .grow 7 (l.map resC) 85)] (lst ((l.filter fun x => !p x).map resC)) [] := by
 refine Ct.B Tryz.func113 mixed 9999 400 ?_
 simp
 refine CW.cc [0] (qdx l kf p hf (by omega)) Tryz.call93 9999 ?_
 simp
 rcases zja p l with ⟨h1, h2⟩ | ⟨i, x, h1, h2, h3, h4⟩
 ·have e : (l.filter fun x => !p x) = l := by
   rw [List.filter_eq_self]; intro a ha
   have := List.find?_eq_none.1 h2 a ha; simpa using this
  simp [h1]
  first | (refine ⟨[], ?_, ?_, ?_, ?_, ?_, ?_, ?_⟩ <;> simp [nmF, inB, e]; done) | (refine ⟨by decide +kernel, ?_⟩; refine ⟨[], ?_, ?_, ?_, ?_, ?_, ?_, ?_⟩ <;> simp [nmF, inB, e])
 ·have hne : ¬ (i : Int) = -1 := by omega
  have hwi : IntKind.wrap .i64 ((i : Int) + 1) = i + 1 := zae (by omega) (by omega)
  simp [h1, hne, hwi]
  have d0 := DelSt.start (x := x) h1 h2
  refine LoopW.inv mixed (Plain.retC _ _ _ _ _) rfl (ι := {q : Nat × Nat × List Res // DelSt p l q.1 q.2.1 q.2.2}) (fun k => [(0, .own 0), (1, .d kf), (5, int k.1.2.1), (6, int k.1.1)]) (fun k => [(0, .grow 7 (k.1.2.2.map resC) 85)]) 64 (fun k => l.length - k.1.1) ⟨(i + 1, i, l), d0⟩ [] (by constructor <;> simp) ?_
  rintro ⟨⟨j, i, cur⟩, hd⟩ B hB
  clear h1 h2 h3 h4 hne hwi d0
  have hlen := hd.len
  have hlt := hd.lt
  have hle := hd.le
  simp only at hlen hlt hle
  have w1 : IntKind.wrap .i64 ((j : Int) + 1) = j + 1 := zae (by omega) (by omega)
  have w2 : IntKind.wrap .i64 ((i : Int) + 1) = i + 1 := zae (by omega) (by omega)
  refine CW.run 9999 400 rfl ?_
  simp [hlen]
  refine sB (fun h => ?_) (fun h => ?_) <;> simp only [h] <;> simp <;> (try simp only [nT, nF, dT, dF] at h)
  ·have hj : j < l.length := by omega
   have hv : l[j]? = some l[j] := List.getElem?_eq_getElem hj
   have hm : l[j] ∈ l := List.getElem_mem hj
   generalize l[j] = v at hv hm
   have hg := hd.get hv
   have hjc : j < cur.length := by omega
   have hgx : cur[j] = v := by rw [List.getElem?_eq_getElem hjc] at hg; exact Option.some.inj hg
   simp [hjc, hgx]
   refine CW.ff (hf v hm) rfl rfl rfl 9999 ?_
   simp
   have hic : i < cur.length := by omega
   refine sB (fun h2 => ?_) (fun h2 => ?_) <;> simp only [h2] <;> simp [hic]
   ·have hp : p v = false := by simpa using h2
    refine hB _ ⟨(j + 1, i + 1, cur.set i v), hd.keep hv hp⟩ [] ?_ (by simp; omega)
    constructor <;> simp [w1, w2, List.map_set]
   ·have hp : p v = true := by simpa using h2
    refine hB _ ⟨(j + 1, i, cur), hd.del hv hp⟩ [] ?_ (by simp; omega)
    constructor <;> simp [w1]
  ·have hj : j = l.length := by omega
   subst hj
   have e : cur.take i = l.filter (fun x => !p x) := hd.done
   simp [hlen]
   have e2 : List.take i (List.map resC cur) = List.map resC (List.filter (fun x => !p x) l) := by rw [← List.map_take, e]
   have e3 : (List.filter (fun x => !p x) l).length = i := by rw [← e, List.length_take]; omega
   refine ⟨by omega, by omega, by omega, ?_⟩
   rw [e2]
   first | (refine ⟨[], ?_, ?_, ?_, ?_, ?_, ?_, ?_⟩ <;> simp [nmF, inB, e3, List.take_append, show i ≤ i + (l.length - i + (l.length - (i + (l.length - i)))) from by omega]; done) | (refine ⟨by decide +kernel, ?_⟩; refine ⟨[], ?_, ?_, ?_, ?_, ?_, ?_, ?_⟩ <;> simp [nmF, inB, e3, List.take_append, show i ≤ i + (l.length - i + (l.length - (i + (l.length - i)))) from by omega])
attribute [simp] Tryz.ntmps217 Tryz.results217
theorem zyr (l : List Res) (k_ : Key) (hl : l.length ≤ 1000000) : Ct Tryz.prog 217 [lst (l.map resC), st (keyC k_)] [] [] (lst ((zbx l k_).map resC)) [] := by
 refine Ct.B Tryz.func217 mixed 9999 400 ?_
 simp
 cases l with
 | nil =>
   refine CW.p qbu Tryz.call114 9999 ?_
   simp
   refine CW.p (is_p k_) Tryz.call94 9999 ?_
   simp
   refine CW.p (delE (.fn (.func 167) [] [.pro (keyC k_)])) Tryz.call113 9999 ?_
   simp
   first | exact fin0 (by simp) rfl | exact zaa (by simp)
 | cons x l =>
   refine CW.cc [] (zum x l (by simp at hl; omega)) Tryz.call114 9999 ?_
   simp
   refine CW.p (is_p k_) Tryz.call94 9999 ?_
   simp
   refine CW.cc [256] (delC (x :: l) (.fn (.func 167) [] [.pro (keyC k_)]) (fun r => decide (r.key = k_)) (fun r hr => FnOk.clo (by exact isP k_ r) Tryz.call167 rfl rfl) hl) Tryz.call113 9999 ?_
   simp
   first | exact fin0 (by simp) rfl | exact zaa (by simp)
attribute [simp] Tryz.ntmps159 Tryz.results159
theorem zoz (l adds : List Res) (gone : List Key) (hl : l.length + adds.length ≤ 1000000) (hg : gone.length ≤ 9223372036854775807) : Ct Tryz.prog 159 [lst (l.map resC), lst (adds.map resC), lst (gone.map keyC)] [] [] (lst ((zac l adds gone).map resC)) [] := by
 refine Ct.B Tryz.func159 mixed 9999 400 ?_
 simp
 refine LoopW.U mixed (gone) (fun k => [(0, lst (((gone.take k.1).foldl zbx l).map resC)), (1, lst (adds.map resC)), (11, lst (gone.map keyC)), (12, int gone.length), (13, int k.1)]) (fun k => []) 64 [] (by constructor <;> simp) ?_
 rintro ⟨k, hk1⟩ B hB
 refine CW.run 9999 400 rfl ?_
 simp
 refine sB (fun h => ?_) (fun h => ?_)
 ·have hk : k < (gone).length := by simpa using h
  obtain ⟨x, hx, hr, hm, ht, hd⟩ := inL hk
  have hw := wr (k := k) (by omega)
  simp only [h]
  simp [hr, hw]
  have h1 := zcu (gone.take k) l
  refine CW.p (zyr ((gone.take k).foldl zbx l) x (by omega)) Tryz.call217 9999 ?_
  simp
  refine hB _ ⟨k + 1, by omega⟩ [] ?_ (by simp; omega)
  constructor <;> simp [hw, ht, List.foldl_append]
 ·have hkl : k = (gone).length := by simp at h; omega
  subst hkl
  simp only [h]
  simp [List.take_length, List.drop_length]
  have h1 := zcu gone l
  refine LoopW.U mixed (adds) (fun k => [(0, lst (((adds.take k.1).foldl zej (gone.foldl zbx l)).map resC)), (21, lst (adds.map resC)), (22, int adds.length), (23, int k.1)]) (fun k => []) 64 [] (by constructor <;> simp) ?_
  rintro ⟨k, hk1⟩ B hB
  refine CW.run 9999 400 rfl ?_
  simp
  refine sB (fun h => ?_) (fun h => ?_)
  ·have hk : k < (adds).length := by simpa using h
   obtain ⟨x, hx, hr, hm, ht, hd⟩ := inL hk
   have hw := wr (k := k) (by omega)
   simp only [h]
   simp [hr, hw]
   have h2 := zef (adds.take k) (gone.foldl zbx l)
   have h3 : (adds.take k).length ≤ adds.length := by simp; omega
   refine CW.p (qex ((adds.take k).foldl zej (gone.foldl zbx l)) x (by omega)) Tryz.call218 9999 ?_
   simp
   refine hB _ ⟨k + 1, by omega⟩ [] ?_ (by simp; omega)
   constructor <;> simp [hw, ht, List.foldl_append]
  ·have hkl : k = (adds).length := by simp at h; omega
   subst hkl
   simp only [h]
   simp [List.take_length, List.drop_length]
   first | exact fin0 (by simp [zac]) rfl | exact zaa (by simp [zac])
attribute [simp] Tryz.ntmps168 Tryz.results168
theorem qjw (l : List Key) (k_ : Key) (hl : l.length ≤ 9223372036854775807) : Ct Tryz.prog 168 [lst (l.map keyC), st (keyC k_)] [] [] (int (idxF (fun x => decide (k_ = x)) l)) [] := by
 refine Ct.B Tryz.func168 mixed 9999 400 ?_
 simp
 refine LoopW.inv mixed (Plain.retC _ _ _ _ _) rfl (ι := {k : Nat // k ≤ (l).length ∧ (l.take k).all (fun x => !decide (k_ = x)) = true}) (fun k => [(0, lst (l.map keyC)), (3, .ptr 64 0), (6, lst (l.map keyC)), (7, int l.length), (8, int k.1)]) (fun k => [(64, .cells ((keyC k_).map .d) 89)]) 65 (fun k => (l).length - k.1) ⟨0, by omega, by simp⟩ [] (by constructor <;> simp) ?_
 rintro ⟨k, hk1, hi⟩ B hB
 refine CW.run 9999 400 rfl ?_
 simp
 refine sB (fun h => ?_) (fun h => ?_)
 ·have hk : k < (l).length := by simpa using h
  obtain ⟨r, hx, hr, hm, ht, hd⟩ := inL hk
  have hw := wr (k := k) (by omega)
  simp only [h]
  simp [hr, hw]
  rw [znt]
  refine ⟨by decide +kernel, ?_⟩
  refine sB (fun h1 => ?_) (fun h1 => ?_) <;> simp only [h1] <;> simp [hr] <;> (try simp only [nT, nF, dT, dF] at h1)
  ·have e := zcl hi hr (by simpa using h1)
   first | exact fin0 (by simp [e]) rfl | exact zaa (by simp [e])
  ·refine hB _ ⟨k + 1, by omega, by simp [ht, hi, h1]⟩ [] ?_ (by simp; omega)
   constructor <;> simp [hw, ht, h1]
 ·have hkl : k = (l).length := by simp at h; omega
  subst hkl
  simp only [h]
  simp [List.take_length, List.drop_length]
  rw [List.take_length] at hi
  have e : idxF (fun x => decide (k_ = x)) l = -1 := za9 (fun x hx => by have := List.all_eq_true.1 hi x hx; simpa using this)
  first | exact fin0 (by simp [e]) rfl | exact zaa (by simp [e])
attribute [simp] Tryz.ntmps95 Tryz.results95
theorem qff (l : List Key) (k_ : Key) (hl : l.length ≤ 9223372036854775807) : Ct Tryz.prog 95 [lst (l.map keyC), st (keyC k_)] [] [] (bool (decide (k_ ∈ l))) [] := by
 refine Ct.B Tryz.func95 mixed 9999 400 ?_
 simp
 refine CW.p (qjw l k_ hl) Tryz.call168 9999 ?_
 simp
 rw [zga]
 have e : (l.any fun x => decide (k_ = x)) = decide (k_ ∈ l) := by rw [Bool.eq_iff_iff]; simp
 first | exact fin0 (by simp [e]) rfl | exact zaa (by simp [e])
end Go.Proofs.YtbmnaehodmgibaaGreatDoor
end
