/-
  LAYERS 3 to 14: the walks of keys, references, configurations, frames and views, of the reference; of the program up to configurations.
-/
import Derived.Test.YtbmnaehodmgibaaGreatDoorWa
import Derived.Test.YtbmnaehodmgibaaGreatDoorPl
set_option linter.unusedSimpArgs false
set_option linter.unusedVariables false
section
namespace Go.Proofs.YtbmnaehodmgibaaGreatDoor
open Go.AI Go.G
set_option maxRecDepth 20000
theorem key_p (r : Res) : Ct Tryz.prog 97 [st (resC r)] [] [] (st (keyC r.key)) [] := by
  refine Ct.of_body Tryz.func97 rfl mixed (by rw [Tryz.ntmps97]; simp) (CW.run 9999 400 rfl ?_)
  simp [Tryz.ntmps97, Tryz.results97]
  first | (exact fin0 (by simp [Res.key]) rfl) | (refine ⟨by decide +kernel, ?_⟩; exact fin0 (by simp [Res.key]) rfl)
end Go.Proofs.YtbmnaehodmgibaaGreatDoor
end
section
namespace Go.Proofs.YtbmnaehodmgibaaGreatDoor
open Go.AI Go.G
set_option maxRecDepth 20000
theorem keysEq_r (a b : List Key) (hl : a.length ≤ 9223372036854775807) : Ct Tryz.prog 58 [lst (a.map keyC), lst (b.map keyC)] [] [] (bool (decide (a = b))) [] := by
  refine Ct.of_body Tryz.func58 rfl mixed (by rw [Tryz.ntmps58]; simp) (CW.run 9999 400 rfl ?_)
  simp [Tryz.ntmps58, Tryz.results58]
  refine run_br_split (fun h1 => ?_) (fun h1 => ?_) <;> simp only [h1] <;> simp [Tryz.ntmps58, Tryz.results58] <;> (try simp only [Bool.not_eq_true', Bool.not_eq_false', decide_eq_true_eq, decide_eq_false_iff_not] at h1)
  · have e : ¬ a = b := fun e => h1 (by rw [e])
    first | (exact fin0 (by simp [e]) rfl) | (refine ⟨by decide +kernel, ?_⟩; exact fin0 (by simp [e]) rfl)
  have hab : a.length = b.length := by omega
  refine LoopW.inv mixed (Plain.retC _ _ _ _ _) rfl (ι := {k : Nat // k ≤ (a).length ∧ a.take k = b.take k}) (fun k => [(0, lst (a.map keyC)), (1, lst (b.map keyC)), (5, int k.1)]) (fun k => []) 64 (fun k => (a).length - k.1) ⟨0, by omega, by simp⟩ [] (by constructor <;> simp) ?_
  rintro ⟨k, hk1, hi⟩ B hB
  refine CW.run 9999 400 rfl ?_
  simp [Tryz.ntmps58, Tryz.results58]
  refine run_br_split (fun h => ?_) (fun h => ?_)
  · have hk : k < (a).length := by simpa using h
    have hr : (a)[k]? = some (a)[k] := List.getElem?_eq_getElem hk
    have hm : (a)[k] ∈ (a) := List.getElem_mem hk
    have ht : (a).take (k + 1) = (a).take k ++ [(a)[k]] := by rw [List.take_add_one, hr]; rfl
    have hd : (a).drop k = (a)[k] :: (a).drop (k + 1) := List.drop_eq_getElem_cons hk
    have hw : IntKind.wrap .i64 ((k : Int) + 1) = k + 1 := wrap_i64 (by omega) (by omega)
    obtain ⟨x, hx⟩ : ∃ x0, (a)[k] = x0 := ⟨_, rfl⟩
    rw [hx] at hr hm ht hd
    simp only [h]
    simp [hr, hw, Tryz.ntmps58, Tryz.results58]
    have hrb : b[k]? = some b[k] := List.getElem?_eq_getElem (by omega)
    have htb : b.take (k + 1) = b.take k ++ [b[k]] := by rw [List.take_add_one, hrb]; rfl
    have hne : x ≠ b[k] → a ≠ b := by
      intro h2 e; subst e; rw [hr] at hrb; cases hrb; exact h2 rfl
    generalize b[k] = y at hrb htb hne
    have hxy : (decide (x.kind = y.kind) && decide (x.name = y.name)) = decide (x = y) := by
      obtain ⟨p, q⟩ := x; obtain ⟨u, v⟩ := y
      simp [Key.mk.injEq]
    simp [hrb, Tryz.ntmps58, Tryz.results58]
    refine ⟨by decide +kernel, ?_⟩
    refine run_br_split (fun h2 => ?_) (fun h2 => ?_) <;> simp only [h2] <;> simp [hr, hrb, Tryz.ntmps58, Tryz.results58] <;> (try simp only [Bool.not_eq_true', Bool.not_eq_false', decide_eq_true_eq, decide_eq_false_iff_not] at h2)
    · have h3 : ¬ x = y := by
        rw [← Bool.not_and, hxy] at h2; simpa using h2
      first | (exact fin0 (by simp [hne h3]) rfl) | (refine ⟨by decide +kernel, ?_⟩; exact fin0 (by simp [hne h3]) rfl)
    · have h3 : x = y := by
        rw [← Bool.not_and, hxy] at h2; simpa using h2
      refine hB _ ⟨k + 1, by omega, by rw [ht, htb, hi, h3]⟩ [] ?_ (by simp; omega)
      constructor <;> simp [hw]
  · have hkl : k = (a).length := by simp at h; omega
    subst hkl
    simp only [h]
    simp [List.take_length, List.drop_length, Tryz.ntmps58, Tryz.results58]
    have e : a = b := by
      rw [List.take_length, hab, List.take_length] at hi; exact hi
    first | (exact fin0 (by simp [e]) rfl) | (refine ⟨by decide +kernel, ?_⟩; exact fin0 (by simp [e]) rfl)
theorem fewRes_r (r : Res) (hl : r.rules.length ≤ 9223372036854775807) : Ct Tryz.prog 117 [st (resC r)] [] [] (bool (fewRes r)) [] := by
  refine Ct.of_body Tryz.func117 rfl mixed (by rw [Tryz.ntmps117]; simp) (CW.run 9999 400 rfl ?_)
  simp [Tryz.ntmps117, Tryz.results117]
  refine LoopW.inv mixed (Plain.retC _ _ _ _ _) rfl (ι := {k : Nat // k ≤ (r.rules).length ∧ (r.rules.take k).all fewRule = true}) (fun k => [(1, .ptr 64 0), (3, int k.1)]) (fun k => [(64, .cells ((resC r).map .d) 85)]) 65 (fun k => (r.rules).length - k.1) ⟨0, by omega, by simp⟩ [] (by constructor <;> simp) ?_
  rintro ⟨k, hk1, hi⟩ B hB
  refine CW.run 9999 400 rfl ?_
  simp [Tryz.ntmps117, Tryz.results117]
  refine run_br_split (fun h => ?_) (fun h => ?_)
  · have hk : k < (r.rules).length := by simpa using h
    have hr : (r.rules)[k]? = some (r.rules)[k] := List.getElem?_eq_getElem hk
    have hm : (r.rules)[k] ∈ (r.rules) := List.getElem_mem hk
    have ht : (r.rules).take (k + 1) = (r.rules).take k ++ [(r.rules)[k]] := by rw [List.take_add_one, hr]; rfl
    have hd : (r.rules).drop k = (r.rules)[k] :: (r.rules).drop (k + 1) := List.drop_eq_getElem_cons hk
    have hw : IntKind.wrap .i64 ((k : Int) + 1) = k + 1 := wrap_i64 (by omega) (by omega)
    obtain ⟨x, hx⟩ : ∃ x0, (r.rules)[k] = x0 := ⟨_, rfl⟩
    rw [hx] at hr hm ht hd
    simp only [h]
    simp [hr, hw, Tryz.ntmps117, Tryz.results117]
    have ef : fewRule x = false → fewRes r = false := fun e => by
      have : r.rules.all fewRule = false := by rw [List.all_eq_false]; exact ⟨x, hm, by simp [e]⟩
      simp only [fewRes, this, Bool.false_and]
    have s1 := size_bs x.host
    have s2 := size_bs x.pre
    refine run_gd_split (fun h1 => ?_) (fun h1 => ?_) <;> simp only [h1] <;> simp [hr, Tryz.ntmps117, Tryz.results117] <;> (try simp only [Bool.not_eq_true', Bool.not_eq_false', decide_eq_true_eq, decide_eq_false_iff_not] at h1)
    · first | (exact fin0 (by simp [ef (by simp [fewRule]; omega)]) rfl) | (refine ⟨by decide +kernel, ?_⟩; exact fin0 (by simp [ef (by simp [fewRule]; omega)]) rfl)
    refine run_gd_split (fun h2 => ?_) (fun h2 => ?_) <;> simp only [h2] <;> simp [hr, Tryz.ntmps117, Tryz.results117] <;> (try simp only [Bool.not_eq_true', Bool.not_eq_false', decide_eq_true_eq, decide_eq_false_iff_not] at h2)
    · first | (exact fin0 (by simp [ef (by simp [fewRule]; omega)]) rfl) | (refine ⟨by decide +kernel, ?_⟩; exact fin0 (by simp [ef (by simp [fewRule]; omega)]) rfl)
    refine run_br_split (fun h3 => ?_) (fun h3 => ?_) <;> simp only [h3] <;> simp [hr, Tryz.ntmps117, Tryz.results117] <;> (try simp only [Bool.not_eq_true', Bool.not_eq_false', decide_eq_true_eq, decide_eq_false_iff_not] at h3)
    · first | (exact fin0 (by simp [ef (by simp [fewRule]; omega)]) rfl) | (refine ⟨by decide +kernel, ?_⟩; exact fin0 (by simp [ef (by simp [fewRule]; omega)]) rfl)
    · have e : fewRule x = true := by simp [fewRule]; omega
      refine hB _ ⟨k + 1, by omega, by simp [ht, hi, e]⟩ [] ?_ (by simp; omega)
      constructor <;> simp [hw, ht, e]
  · have hkl : k = (r.rules).length := by simp at h; omega
    subst hkl
    simp only [h]
    simp [List.take_length, List.drop_length, Tryz.ntmps117, Tryz.results117]
    rw [List.take_length] at hi
    have s3 := size_bs r.name
    have s4 := size_bs r.to
    refine run_gd_split (fun g1 => ?_) (fun g1 => ?_) <;> simp only [g1] <;> simp [Tryz.ntmps117, Tryz.results117] <;> (try simp only [Bool.not_eq_true', Bool.not_eq_false', decide_eq_true_eq, decide_eq_false_iff_not] at g1)
    · have a1 : r.rules.length ≤ 20 := by omega
      refine run_gd_split (fun g2 => ?_) (fun g2 => ?_) <;> simp only [g2] <;> simp [Tryz.ntmps117, Tryz.results117] <;> (try simp only [Bool.not_eq_true', Bool.not_eq_false', decide_eq_true_eq, decide_eq_false_iff_not] at g2)
      · have a2 : r.hosts.length ≤ 20 := by omega
        refine run_gd_split (fun g3 => ?_) (fun g3 => ?_) <;> simp only [g3] <;> simp [Tryz.ntmps117, Tryz.results117] <;> (try simp only [Bool.not_eq_true', Bool.not_eq_false', decide_eq_true_eq, decide_eq_false_iff_not] at g3)
        · have a3 : (bs r.name).length ≤ 100 := by omega
          by_cases g4 : (bs r.to).length ≤ 100
          · exact fin0 (by simp [fewRes, hi, a1, a2, a3, g4, s4]; try omega) rfl
          · exact fin0 (by simp [fewRes, hi, a1, a2, a3, g4, s4]; try omega) rfl
        · have a3 : ¬ (bs r.name).length ≤ 100 := by omega
          first | (exact fin0 (by simp [fewRes, a3]) rfl) | (refine ⟨by decide +kernel, ?_⟩; exact fin0 (by simp [fewRes, a3]) rfl)
      · have a2 : ¬ r.hosts.length ≤ 20 := by omega
        first | (exact fin0 (by simp [fewRes, a2]) rfl) | (refine ⟨by decide +kernel, ?_⟩; exact fin0 (by simp [fewRes, a2]) rfl)
    · have a1 : ¬ r.rules.length ≤ 20 := by omega
      first | (exact fin0 (by simp [fewRes, a1]) rfl) | (refine ⟨by decide +kernel, ?_⟩; exact fin0 (by simp [fewRes, a1]) rfl)
theorem rules_r (a b : List Rule) (hl : a.length ≤ 9223372036854775807 ∧ ∀ x ∈ a, x.split.length ≤ 9223372036854775807) : Ct Tryz.prog 245 [lst (a.map ruleC), lst (b.map ruleC)] [] [] (bool (decide (a = b))) [] := by
  refine Ct.of_body Tryz.func245 rfl mixed (by rw [Tryz.ntmps245]; simp) (CW.run 9999 400 rfl ?_)
  simp [Tryz.ntmps245, Tryz.results245]
  obtain ⟨hl1, hl2⟩ := hl
  refine run_br_split (fun h1 => ?_) (fun h1 => ?_) <;> simp only [h1] <;> simp [Tryz.ntmps245, Tryz.results245] <;> (try simp only [Bool.not_eq_true', Bool.not_eq_false', decide_eq_true_eq, decide_eq_false_iff_not] at h1)
  · have e : ¬ a = b := fun e => h1 (by rw [e])
    first | (exact fin0 (by simp [e]) rfl) | (refine ⟨by decide +kernel, ?_⟩; exact fin0 (by simp [e]) rfl)
  have hab : a.length = b.length := by omega
  refine LoopW.inv mixed (Plain.retC _ _ _ _ _) rfl (ι := {k : Nat // k ≤ (a).length ∧ a.take k = b.take k}) (fun k => [(0, lst (a.map ruleC)), (1, lst (b.map ruleC)), (5, int k.1)]) (fun k => []) 64 (fun k => (a).length - k.1) ⟨0, by omega, by simp⟩ [] (by constructor <;> simp) ?_
  rintro ⟨k, hk1, hi⟩ B hB
  refine CW.run 9999 400 rfl ?_
  simp [Tryz.ntmps245, Tryz.results245]
  refine run_br_split (fun h => ?_) (fun h => ?_)
  · have hk : k < (a).length := by simpa using h
    have hr : (a)[k]? = some (a)[k] := List.getElem?_eq_getElem hk
    have hm : (a)[k] ∈ (a) := List.getElem_mem hk
    have ht : (a).take (k + 1) = (a).take k ++ [(a)[k]] := by rw [List.take_add_one, hr]; rfl
    have hd : (a).drop k = (a)[k] :: (a).drop (k + 1) := List.drop_eq_getElem_cons hk
    have hw : IntKind.wrap .i64 ((k : Int) + 1) = k + 1 := wrap_i64 (by omega) (by omega)
    obtain ⟨x, hx⟩ : ∃ x0, (a)[k] = x0 := ⟨_, rfl⟩
    rw [hx] at hr hm ht hd
    simp only [h]
    simp [hr, hw, Tryz.ntmps245, Tryz.results245]
    have hrb : b[k]? = some b[k] := List.getElem?_eq_getElem (by omega)
    have htb : b.take (k + 1) = b.take k ++ [b[k]] := by rw [List.take_add_one, hrb]; rfl
    have hne : x ≠ b[k] → a ≠ b := by
      intro h2 e; subst e; rw [hr] at hrb; cases hrb; exact h2 rfl
    generalize b[k] = y at hrb htb hne
    simp [hrb, Tryz.ntmps245, Tryz.results245]
    refine run_gd_split (fun h2 => ?_) (fun h2 => ?_) <;> simp only [h2] <;> simp [hr, hrb, Tryz.ntmps245, Tryz.results245] <;> (try simp only [Bool.not_eq_true', Bool.not_eq_false', decide_eq_true_eq, decide_eq_false_iff_not] at h2)
    · refine ⟨by decide +kernel, ?_⟩
      first | (exact fin0 (by simp [hne (fun e => h2 (by rw [e]))]) rfl) | (refine ⟨by decide +kernel, ?_⟩; exact fin0 (by simp [hne (fun e => h2 (by rw [e]))]) rfl)
    refine run_gd_split (fun h3 => ?_) (fun h3 => ?_) <;> simp only [h3] <;> simp [hr, hrb, Tryz.ntmps245, Tryz.results245] <;> (try simp only [Bool.not_eq_true', Bool.not_eq_false', decide_eq_true_eq, decide_eq_false_iff_not] at h3)
    · refine ⟨by decide +kernel, ?_⟩
      first | (exact fin0 (by simp [hne (fun e => h3 (by rw [e]))]) rfl) | (refine ⟨by decide +kernel, ?_⟩; exact fin0 (by simp [hne (fun e => h3 (by rw [e]))]) rfl)
    refine ⟨by decide +kernel, ?_⟩
    refine run_br_split (fun h4 => ?_) (fun h4 => ?_) <;> simp only [h4] <;> simp [hr, hrb, Tryz.ntmps245, Tryz.results245] <;> (try simp only [Bool.not_eq_true', Bool.not_eq_false', decide_eq_true_eq, decide_eq_false_iff_not] at h4)
    · first | (exact fin0 (by simp [hne (fun e => h4 (by rw [e]))]) rfl) | (refine ⟨by decide +kernel, ?_⟩; exact fin0 (by simp [hne (fun e => h4 (by rw [e]))]) rfl)
    have h4' : x.split.length = y.split.length := by omega
    have h5 := hl2 x hm
    refine LoopW.inv mixed (Plain.retC _ _ _ _ _) rfl (ι := {kj : Nat // kj ≤ (x.split).length ∧ x.split.take kj = y.split.take kj}) (fun kj => [(0, lst (a.map ruleC)), (1, lst (b.map ruleC)), (5, int k), (6, int kj.1)]) (fun kj => []) 64 (fun kj => (x.split).length - kj.1) ⟨0, by omega, by simp⟩ [] (by constructor <;> simp [hr]) ?_
    rintro ⟨kj, hk1j, hij⟩ Bj hBj
    refine CW.run 9999 400 rfl ?_
    simp [hr, Tryz.ntmps245, Tryz.results245]
    refine run_br_split (fun hj => ?_) (fun hj => ?_)
    · have hkj : kj < (x.split).length := by simpa using hj
      have hrj : (x.split)[kj]? = some (x.split)[kj] := List.getElem?_eq_getElem hkj
      have hmj : (x.split)[kj] ∈ (x.split) := List.getElem_mem hkj
      have htj : (x.split).take (kj + 1) = (x.split).take kj ++ [(x.split)[kj]] := by rw [List.take_add_one, hrj]; rfl
      have hdj : (x.split).drop kj = (x.split)[kj] :: (x.split).drop (kj + 1) := List.drop_eq_getElem_cons hkj
      have hwj : IntKind.wrap .i64 ((kj : Int) + 1) = kj + 1 := wrap_i64 (by omega) (by omega)
      obtain ⟨w, hxj⟩ : ∃ x0, (x.split)[kj] = x0 := ⟨_, rfl⟩
      rw [hxj] at hrj hmj htj hdj
      simp only [hj]
      simp [hrj, hwj, hr, hrb, Tryz.ntmps245, Tryz.results245]
      have hrc : y.split[kj]? = some y.split[kj] := List.getElem?_eq_getElem (by omega)
      have htc : y.split.take (kj + 1) = y.split.take kj ++ [y.split[kj]] := by rw [List.take_add_one, hrc]; rfl
      have hnc : w ≠ y.split[kj] → x ≠ y := by
        intro h2 e; subst e; rw [hrj] at hrc; cases hrc; exact h2 rfl
      generalize y.split[kj] = v at hrc htc hnc
      have hwv : (decide (w.cluster = v.cluster) && decide (w.w = v.w)) = decide (w = v) := by
        obtain ⟨p, q⟩ := w; obtain ⟨u, t⟩ := v
        simp [Weight.mk.injEq]
      simp [hrc, hr, hrb, hrj, Tryz.ntmps245, Tryz.results245]
      refine ⟨by decide +kernel, ?_⟩
      refine run_br_split (fun h6 => ?_) (fun h6 => ?_) <;> simp only [h6] <;> simp [hr, hrb, hrj, hrc, Tryz.ntmps245, Tryz.results245] <;> (try simp only [Bool.not_eq_true', Bool.not_eq_false', decide_eq_true_eq, decide_eq_false_iff_not] at h6)
      · have h7 : ¬ w = v := by
          rw [← Bool.not_and, hwv] at h6; simpa using h6
        first | (exact fin0 (by simp [hne (hnc h7)]) rfl) | (refine ⟨by decide +kernel, ?_⟩; exact fin0 (by simp [hne (hnc h7)]) rfl)
      · have h7 : w = v := by
          rw [← Bool.not_and, hwv] at h6; simpa using h6
        refine hBj _ ⟨kj + 1, by omega, by rw [htj, htc, hij, h7]⟩ [] ?_ (by simp; omega)
        constructor <;> simp [hwj]
    · have hklj : kj = (x.split).length := by simp at hj; omega
      subst hklj
      simp only [hj]
      simp [List.take_length, List.drop_length, hw, Tryz.ntmps245, Tryz.results245]
      have e : x = y := by
        rw [List.take_length, h4', List.take_length] at hij
        obtain ⟨p, q, t⟩ := x; obtain ⟨p', q', t'⟩ := y
        simp only at h2 h3 hij
        rw [h2, h3, hij]
      refine hB _ ⟨k + 1, by omega, by rw [ht, htb, hi, e]⟩ [] ?_ (by simp; omega)
      constructor <;> simp [hw]
  · have hkl : k = (a).length := by simp at h; omega
    subst hkl
    simp only [h]
    simp [List.take_length, List.drop_length, Tryz.ntmps245, Tryz.results245]
    have e : a = b := by
      rw [List.take_length, hab, List.take_length] at hi; exact hi
    first | (exact fin0 (by simp [e]) rfl) | (refine ⟨by decide +kernel, ?_⟩; exact fin0 (by simp [e]) rfl)
end Go.Proofs.YtbmnaehodmgibaaGreatDoor
end
section
namespace Go.Proofs.YtbmnaehodmgibaaGreatDoor
open Go.AI Go.G
set_option maxRecDepth 20000
theorem alike_r (a b : Res) (hl : OkRes a) : Ct Tryz.prog 182 [st (resC a), st (resC b)] [] [] (bool (alikeB a b)) [] := by
  refine Ct.of_body Tryz.func182 rfl mixed (by rw [Tryz.ntmps182]; simp) (CW.run 9999 400 rfl ?_)
  simp [Tryz.ntmps182, Tryz.results182]
  refine run_gd_split (fun h1 => ?_) (fun h1 => ?_) <;> simp only [h1] <;> simp [Tryz.ntmps182, Tryz.results182] <;> (try simp only [Bool.not_eq_true', Bool.not_eq_false', decide_eq_true_eq, decide_eq_false_iff_not] at h1)
  · first | (exact fin0 (by simp [alikeB, h1]) rfl) | (refine ⟨by decide +kernel, ?_⟩; exact fin0 (by simp [alikeB, h1]) rfl)
  refine run_gd_split (fun h2 => ?_) (fun h2 => ?_) <;> simp only [h2] <;> simp [Tryz.ntmps182, Tryz.results182] <;> (try simp only [Bool.not_eq_true', Bool.not_eq_false', decide_eq_true_eq, decide_eq_false_iff_not] at h2)
  · first | (exact fin0 (by simp [alikeB, h2]) rfl) | (refine ⟨by decide +kernel, ?_⟩; exact fin0 (by simp [alikeB, h2]) rfl)
  refine run_gd_split (fun h3 => ?_) (fun h3 => ?_) <;> simp only [h3] <;> simp [Tryz.ntmps182, Tryz.results182] <;> (try simp only [Bool.not_eq_true', Bool.not_eq_false', decide_eq_true_eq, decide_eq_false_iff_not] at h3)
  · first | (exact fin0 (by simp [alikeB, h3]) rfl) | (refine ⟨by decide +kernel, ?_⟩; exact fin0 (by simp [alikeB, h3]) rfl)
  refine run_gd_split (fun h4 => ?_) (fun h4 => ?_) <;> simp only [h4] <;> simp [Tryz.ntmps182, Tryz.results182] <;> (try simp only [Bool.not_eq_true', Bool.not_eq_false', decide_eq_true_eq, decide_eq_false_iff_not] at h4)
  · first | (exact fin0 (by simp [alikeB, h4]) rfl) | (refine ⟨by decide +kernel, ?_⟩; exact fin0 (by simp [alikeB, h4]) rfl)
  refine run_br_split (fun h5 => ?_) (fun h5 => ?_) <;> simp only [h5] <;> simp [Tryz.ntmps182, Tryz.results182] <;> (try simp only [Bool.not_eq_true', Bool.not_eq_false', decide_eq_true_eq, decide_eq_false_iff_not] at h5)
  · have e : ¬ a.hosts = b.hosts := fun e => h5 (by rw [e])
    first | (exact fin0 (by simp [alikeB, e]) rfl) | (refine ⟨by decide +kernel, ?_⟩; exact fin0 (by simp [alikeB, e]) rfl)
  have hab : a.hosts.length = b.hosts.length := by omega
  have hh := hl.hosts
  refine LoopW.inv mixed (Plain.retC _ _ _ _ _) rfl (ι := {k : Nat // k ≤ (a.hosts).length ∧ a.hosts.take k = b.hosts.take k}) (fun k => [(2, .ptr 64 0), (3, .ptr 65 0), (5, int k.1)]) (fun k => [(64, .cells ((resC a).map .d) 85), (65, .cells ((resC b).map .d) 85)]) 66 (fun k => (a.hosts).length - k.1) ⟨0, by omega, by simp⟩ [] (by constructor <;> simp) ?_
  rintro ⟨k, hk1, hi⟩ B hB
  refine CW.run 9999 400 rfl ?_
  simp [Tryz.ntmps182, Tryz.results182]
  refine run_br_split (fun h => ?_) (fun h => ?_)
  · have hk : k < (a.hosts).length := by simpa using h
    have hr : (a.hosts)[k]? = some (a.hosts)[k] := List.getElem?_eq_getElem hk
    have hm : (a.hosts)[k] ∈ (a.hosts) := List.getElem_mem hk
    have ht : (a.hosts).take (k + 1) = (a.hosts).take k ++ [(a.hosts)[k]] := by rw [List.take_add_one, hr]; rfl
    have hd : (a.hosts).drop k = (a.hosts)[k] :: (a.hosts).drop (k + 1) := List.drop_eq_getElem_cons hk
    have hw : IntKind.wrap .i64 ((k : Int) + 1) = k + 1 := wrap_i64 (by omega) (by omega)
    obtain ⟨x, hx⟩ : ∃ x0, (a.hosts)[k] = x0 := ⟨_, rfl⟩
    rw [hx] at hr hm ht hd
    simp only [h]
    simp [hr, hw, Tryz.ntmps182, Tryz.results182]
    have hrb : b.hosts[k]? = some b.hosts[k] := List.getElem?_eq_getElem (by omega)
    have htb : b.hosts.take (k + 1) = b.hosts.take k ++ [b.hosts[k]] := by rw [List.take_add_one, hrb]; rfl
    have hne : x ≠ b.hosts[k] → a.hosts ≠ b.hosts := by
      intro h2 e; exact h2 (Option.some.inj (by rw [← hr, ← hrb, e]))
    generalize b.hosts[k] = y at hrb htb hne
    simp [hrb, Tryz.ntmps182, Tryz.results182]
    refine ⟨by decide +kernel, ?_⟩
    refine run_br_split (fun h6 => ?_) (fun h6 => ?_) <;> simp only [h6] <;> simp [hr, hrb, Tryz.ntmps182, Tryz.results182] <;> (try simp only [Bool.not_eq_true', Bool.not_eq_false', decide_eq_true_eq, decide_eq_false_iff_not] at h6)
    · have e : ¬ a.hosts = b.hosts := hne h6
      first | (exact fin0 (by simp [alikeB, e]) rfl) | (refine ⟨by decide +kernel, ?_⟩; exact fin0 (by simp [alikeB, e]) rfl)
    · have h6' : x = y := by omega
      refine hB _ ⟨k + 1, by omega, by rw [ht, htb, hi, h6']⟩ [] ?_ (by simp; omega)
      constructor <;> simp [hw]
  · have hkl : k = (a.hosts).length := by simp at h; omega
    subst hkl
    simp only [h]
    simp [List.take_length, List.drop_length, Tryz.ntmps182, Tryz.results182]
    have e : a.hosts = b.hosts := by
      rw [List.take_length, hab, List.take_length] at hi; exact hi
    refine CW.callP (rules_r a.rules b.rules ⟨hl.rules, hl.split⟩) Tryz.call245 rfl rfl rfl (by first | exact .inl rfl | exact .inr ⟨_, _, rfl, by simp⟩ | exact .inr ⟨_, _, rfl, by simp [*]⟩) rfl (by simp) rfl rfl (CW.runOps 9999 400 rfl ?_)
    simp [Tryz.ntmps182, Tryz.results182]
    first | (exact fin0 (by simp [alikeB, h1, h2, h3, h4, e]) rfl) | (refine ⟨by decide +kernel, ?_⟩; exact fin0 (by simp [alikeB, h1, h2, h3, h4, e]) rfl)
theorem same_r (a b : Res) (hl : OkRes a) : Ct Tryz.prog 111 [st (resC a), st (resC b)] [] [] (bool (decide (a = b))) [] := by
  refine Ct.of_body Tryz.func111 rfl mixed (by rw [Tryz.ntmps111]; simp) (CW.run 9999 400 rfl ?_)
  simp [Tryz.ntmps111, Tryz.results111]
  refine CW.callP (alike_r a b hl) Tryz.call182 rfl rfl rfl (by first | exact .inl rfl | exact .inr ⟨_, _, rfl, by simp⟩ | exact .inr ⟨_, _, rfl, by simp [*]⟩) rfl (by simp) rfl rfl (CW.runOps 9999 400 rfl ?_)
  simp [Tryz.ntmps111, Tryz.results111]
  rw [← alike_same]
  refine run_gd_split (fun h1 => ?_) (fun h1 => ?_) <;> simp only [h1] <;> simp [Tryz.ntmps111, Tryz.results111] <;> (try simp only [Bool.not_eq_true', Bool.not_eq_false', decide_eq_true_eq, decide_eq_false_iff_not] at h1)
  · first | (exact fin0 (by simp [h1]) rfl) | (refine ⟨by decide +kernel, ?_⟩; exact fin0 (by simp [h1]) rfl)
  · first | (exact fin0 (by simp [h1]) rfl) | (refine ⟨by decide +kernel, ?_⟩; exact fin0 (by simp [h1]) rfl)
theorem all_r (a b : List Res) (hl : OkRs a) : Ct Tryz.prog 45 [lst (a.map resC), lst (b.map resC)] [] [] (bool (decide (a = b))) [] := by
  refine Ct.of_body Tryz.func45 rfl mixed (by rw [Tryz.ntmps45]; simp) (CW.run 9999 400 rfl ?_)
  simp [Tryz.ntmps45, Tryz.results45]
  refine run_br_split (fun h1 => ?_) (fun h1 => ?_) <;> simp only [h1] <;> simp [Tryz.ntmps45, Tryz.results45] <;> (try simp only [Bool.not_eq_true', Bool.not_eq_false', decide_eq_true_eq, decide_eq_false_iff_not] at h1)
  · have e : ¬ a = b := fun e => h1 (by rw [e])
    first | (exact fin0 (by simp [e]) rfl) | (refine ⟨by decide +kernel, ?_⟩; exact fin0 (by simp [e]) rfl)
  have hab : a.length = b.length := by omega
  have hh := hl.len
  refine LoopW.inv mixed (Plain.retC _ _ _ _ _) rfl (ι := {k : Nat // k ≤ (a).length ∧ a.take k = b.take k}) (fun k => [(0, lst (a.map resC)), (1, lst (b.map resC)), (5, int k.1)]) (fun k => []) 64 (fun k => (a).length - k.1) ⟨0, by omega, by simp⟩ [] (by constructor <;> simp) ?_
  rintro ⟨k, hk1, hi⟩ B hB
  refine CW.run 9999 400 rfl ?_
  simp [Tryz.ntmps45, Tryz.results45]
  refine run_br_split (fun h => ?_) (fun h => ?_)
  · have hk : k < (a).length := by simpa using h
    have hr : (a)[k]? = some (a)[k] := List.getElem?_eq_getElem hk
    have hm : (a)[k] ∈ (a) := List.getElem_mem hk
    have ht : (a).take (k + 1) = (a).take k ++ [(a)[k]] := by rw [List.take_add_one, hr]; rfl
    have hd : (a).drop k = (a)[k] :: (a).drop (k + 1) := List.drop_eq_getElem_cons hk
    have hw : IntKind.wrap .i64 ((k : Int) + 1) = k + 1 := wrap_i64 (by omega) (by omega)
    obtain ⟨x, hx⟩ : ∃ x0, (a)[k] = x0 := ⟨_, rfl⟩
    rw [hx] at hr hm ht hd
    simp only [h]
    simp [hr, hw, Tryz.ntmps45, Tryz.results45]
    have hrb : b[k]? = some b[k] := List.getElem?_eq_getElem (by omega)
    have htb : b.take (k + 1) = b.take k ++ [b[k]] := by rw [List.take_add_one, hrb]; rfl
    have hne : x ≠ b[k] → a ≠ b := by
      intro h2 e; subst e; rw [hr] at hrb; cases hrb; exact h2 rfl
    generalize b[k] = y at hrb htb hne
    simp [hrb, Tryz.ntmps45, Tryz.results45]
    refine CW.callP (same_r x y (hl.all x hm)) Tryz.call111 rfl rfl rfl (by first | exact .inl rfl | exact .inr ⟨_, _, rfl, by simp⟩ | exact .inr ⟨_, _, rfl, by simp [*]⟩) rfl (by simp) rfl rfl (CW.runOps 9999 400 rfl ?_)
    simp [Tryz.ntmps45, Tryz.results45]
    refine ⟨by decide +kernel, ?_⟩
    refine run_br_split (fun h2 => ?_) (fun h2 => ?_) <;> simp only [h2] <;> simp [Tryz.ntmps45, Tryz.results45] <;> (try simp only [Bool.not_eq_true', Bool.not_eq_false', decide_eq_true_eq, decide_eq_false_iff_not] at h2)
    · first | (exact fin0 (by simp [hne h2]) rfl) | (refine ⟨by decide +kernel, ?_⟩; exact fin0 (by simp [hne h2]) rfl)
    · refine hB _ ⟨k + 1, by omega, by rw [ht, htb, hi, h2]⟩ [] ?_ (by simp; omega)
      constructor <;> simp [hw]
  · have hkl : k = (a).length := by simp at h; omega
    subst hkl
    simp only [h]
    simp [List.take_length, List.drop_length, Tryz.ntmps45, Tryz.results45]
    have e : a = b := by
      rw [List.take_length, hab, List.take_length] at hi; exact hi
    first | (exact fin0 (by simp [e]) rfl) | (refine ⟨by decide +kernel, ?_⟩; exact fin0 (by simp [e]) rfl)
theorem few_r (l : List Res) (hl : OkRs l) : Ct Tryz.prog 49 [lst (l.map resC)] [] [] (bool (fewL l)) [] := by
  refine Ct.of_body Tryz.func49 rfl mixed (by rw [Tryz.ntmps49]; simp) (CW.run 9999 400 rfl ?_)
  simp [Tryz.ntmps49, Tryz.results49]
  have hh := hl.len
  refine LoopW.inv mixed (Plain.retC _ _ _ _ _) rfl (ι := {k : Nat // k ≤ (l).length ∧ (l.take k).all fewRes = true}) (fun k => [(0, lst (l.map resC)), (3, int k.1)]) (fun k => []) 64 (fun k => (l).length - k.1) ⟨0, by omega, by simp⟩ [] (by constructor <;> simp) ?_
  rintro ⟨k, hk1, hi⟩ B hB
  refine CW.run 9999 400 rfl ?_
  simp [Tryz.ntmps49, Tryz.results49]
  refine run_br_split (fun h => ?_) (fun h => ?_)
  · have hk : k < (l).length := by simpa using h
    have hr : (l)[k]? = some (l)[k] := List.getElem?_eq_getElem hk
    have hm : (l)[k] ∈ (l) := List.getElem_mem hk
    have ht : (l).take (k + 1) = (l).take k ++ [(l)[k]] := by rw [List.take_add_one, hr]; rfl
    have hd : (l).drop k = (l)[k] :: (l).drop (k + 1) := List.drop_eq_getElem_cons hk
    have hw : IntKind.wrap .i64 ((k : Int) + 1) = k + 1 := wrap_i64 (by omega) (by omega)
    obtain ⟨x, hx⟩ : ∃ x0, (l)[k] = x0 := ⟨_, rfl⟩
    rw [hx] at hr hm ht hd
    simp only [h]
    simp [hr, hw, Tryz.ntmps49, Tryz.results49]
    refine CW.callP (fewRes_r x (hl.all x hm).rules) Tryz.call117 rfl rfl rfl (by first | exact .inl rfl | exact .inr ⟨_, _, rfl, by simp⟩ | exact .inr ⟨_, _, rfl, by simp [*]⟩) rfl (by simp) rfl rfl (CW.runOps 9999 400 rfl ?_)
    simp [Tryz.ntmps49, Tryz.results49]
    refine run_br_split (fun h1 => ?_) (fun h1 => ?_) <;> simp only [h1] <;> simp [Tryz.ntmps49, Tryz.results49] <;> (try simp only [Bool.not_eq_true', Bool.not_eq_false', decide_eq_true_eq, decide_eq_false_iff_not] at h1)
    · have e : l.all fewRes = false := by rw [List.all_eq_false]; exact ⟨x, hm, by simp [h1]⟩
      first | (exact fin0 (by simp [fewL, e]) rfl) | (refine ⟨by decide +kernel, ?_⟩; exact fin0 (by simp [fewL, e]) rfl)
    · refine hB _ ⟨k + 1, by omega, by simp [ht, hi, h1]⟩ [] ?_ (by simp; omega)
      constructor <;> simp [hw, ht, h1]
  · have hkl : k = (l).length := by simp at h; omega
    subst hkl
    simp only [h]
    simp [List.take_length, List.drop_length, Tryz.ntmps49, Tryz.results49]
    rw [List.take_length] at hi
    exact fin0 (by simp [fewL, hi]; try omega) rfl
end Go.Proofs.YtbmnaehodmgibaaGreatDoor
end
section
namespace Go.Proofs.YtbmnaehodmgibaaGreatDoor
open Go.AI Go.G
set_option maxRecDepth 20000
theorem has_r (l : List Key) (k_ : Key) (hl : l.length ≤ 9223372036854775807) : Ct Tryz.prog 36 [lst (l.map keyC), st (keyC k_)] [] [] (bool (decide (k_ ∈ l))) [] := by
  refine Ct.of_body Tryz.func36 rfl mixed (by rw [Tryz.ntmps36]; simp) (CW.run 9999 400 rfl ?_)
  simp [Tryz.ntmps36, Tryz.results36]
  refine LoopW.inv mixed (Plain.retC _ _ _ _ _) rfl (ι := {k : Nat // k ≤ (l).length ∧ k_ ∉ l.take k}) (fun k => [(0, lst (l.map keyC)), (3, .ptr 64 0), (5, int k.1)]) (fun k => [(64, .cells ((keyC k_).map .d) 89)]) 65 (fun k => (l).length - k.1) ⟨0, by omega, by simp⟩ [] (by constructor <;> simp) ?_
  rintro ⟨k, hk1, hi⟩ B hB
  refine CW.run 9999 400 rfl ?_
  simp [Tryz.ntmps36, Tryz.results36]
  refine run_br_split (fun h => ?_) (fun h => ?_)
  · have hk : k < (l).length := by simpa using h
    have hr : (l)[k]? = some (l)[k] := List.getElem?_eq_getElem hk
    have hm : (l)[k] ∈ (l) := List.getElem_mem hk
    have ht : (l).take (k + 1) = (l).take k ++ [(l)[k]] := by rw [List.take_add_one, hr]; rfl
    have hd : (l).drop k = (l)[k] :: (l).drop (k + 1) := List.drop_eq_getElem_cons hk
    have hw : IntKind.wrap .i64 ((k : Int) + 1) = k + 1 := wrap_i64 (by omega) (by omega)
    obtain ⟨x, hx⟩ : ∃ x0, (l)[k] = x0 := ⟨_, rfl⟩
    rw [hx] at hr hm ht hd
    simp only [h]
    simp [hr, hw, Tryz.ntmps36, Tryz.results36]
    rw [key_eq]
    refine ⟨by decide +kernel, ?_⟩
    refine run_br_split (fun h1 => ?_) (fun h1 => ?_) <;> simp only [h1] <;> simp [hr, Tryz.ntmps36, Tryz.results36] <;> (try simp only [Bool.not_eq_true', Bool.not_eq_false', decide_eq_true_eq, decide_eq_false_iff_not] at h1)
    · have e : k_ ∈ l := by rw [← h1]; exact hm
      first | (exact fin0 (by simp [e]) rfl) | (refine ⟨by decide +kernel, ?_⟩; exact fin0 (by simp [e]) rfl)
    · refine hB _ ⟨k + 1, by omega, by rw [ht]; simp [hi]; exact fun e => h1 e.symm⟩ [] ?_ (by simp; omega)
      constructor <;> simp [hw]
  · have hkl : k = (l).length := by simp at h; omega
    subst hkl
    simp only [h]
    simp [List.take_length, List.drop_length, Tryz.ntmps36, Tryz.results36]
    rw [List.take_length] at hi
    first | (exact fin0 (by simp [hi]) rfl) | (refine ⟨by decide +kernel, ?_⟩; exact fin0 (by simp [hi]) rfl)
theorem fewF_r (f : G.Frame) (hl : OkFrame f) : Ct Tryz.prog 11 [st (frameC f)] [] [] (bool (fewF f)) [] := by
  refine Ct.of_body Tryz.func11 rfl mixed (by rw [Tryz.ntmps11]; simp) (CW.run 9999 400 rfl ?_)
  simp [Tryz.ntmps11, Tryz.results11]
  have hh := hl.have_
  refine LoopW.inv mixed (Plain.retC _ _ _ _ _) rfl (ι := {k : Nat // k ≤ (f.have_).length ∧ ((f.have_.take k).all fun m => decide ((bs m.k.name).length ≤ 100)) = true}) (fun k => [(1, .ptr 64 0), (3, int k.1)]) (fun k => [(64, .cells ((frameC f).map .d) 31)]) 65 (fun k => (f.have_).length - k.1) ⟨0, by omega, by simp⟩ [] (by constructor <;> simp) ?_
  rintro ⟨k, hk1, hi⟩ B hB
  refine CW.run 9999 400 rfl ?_
  simp [Tryz.ntmps11, Tryz.results11]
  refine run_br_split (fun h => ?_) (fun h => ?_)
  · have hk : k < (f.have_).length := by simpa using h
    have hr : (f.have_)[k]? = some (f.have_)[k] := List.getElem?_eq_getElem hk
    have hm : (f.have_)[k] ∈ (f.have_) := List.getElem_mem hk
    have ht : (f.have_).take (k + 1) = (f.have_).take k ++ [(f.have_)[k]] := by rw [List.take_add_one, hr]; rfl
    have hd : (f.have_).drop k = (f.have_)[k] :: (f.have_).drop (k + 1) := List.drop_eq_getElem_cons hk
    have hw : IntKind.wrap .i64 ((k : Int) + 1) = k + 1 := wrap_i64 (by omega) (by omega)
    obtain ⟨x, hx⟩ : ∃ x0, (f.have_)[k] = x0 := ⟨_, rfl⟩
    rw [hx] at hr hm ht hd
    simp only [h]
    simp [hr, hw, Tryz.ntmps11, Tryz.results11]
    have s1 := size_bs x.k.name
    refine run_br_split (fun h1 => ?_) (fun h1 => ?_) <;> simp only [h1] <;> simp [hr, s1, Tryz.ntmps11, Tryz.results11] <;> (try simp only [Bool.not_eq_true', Bool.not_eq_false', decide_eq_true_eq, decide_eq_false_iff_not] at h1)
    · have e : (f.have_.all fun m => decide ((bs m.k.name).length ≤ 100)) = false := by
        rw [List.all_eq_false]; exact ⟨x, hm, by simp; omega⟩
      first | (exact fin0 (by simp [fewF, e]) rfl) | (refine ⟨by decide +kernel, ?_⟩; exact fin0 (by simp [fewF, e]) rfl)
    · have e : (bs x.k.name).length ≤ 100 := by omega
      refine hB _ ⟨k + 1, by omega, by simp [ht, hi, e]⟩ [] ?_ (by simp; omega)
      constructor <;> simp [hw, ht, e]
  · have hkl : k = (f.have_).length := by simp at h; omega
    subst hkl
    simp only [h]
    simp [List.take_length, List.drop_length, Tryz.ntmps11, Tryz.results11]
    rw [List.take_length] at hi
    refine CW.callP (few_r f.adds hl.adds) Tryz.call49 rfl rfl rfl (by first | exact .inl rfl | exact .inr ⟨_, _, rfl, by simp⟩ | exact .inr ⟨_, _, rfl, by simp [*]⟩) rfl (by simp) rfl rfl (CW.runOps 9999 400 rfl ?_)
    simp [Tryz.ntmps11, Tryz.results11]
    refine run_gd_split (fun h1 => ?_) (fun h1 => ?_) <;> simp only [h1] <;> simp [Tryz.ntmps11, Tryz.results11] <;> (try simp only [Bool.not_eq_true', Bool.not_eq_false', decide_eq_true_eq, decide_eq_false_iff_not] at h1)
    · refine run_gd_split (fun h2 => ?_) (fun h2 => ?_) <;> simp only [h2] <;> simp [Tryz.ntmps11, Tryz.results11] <;> (try simp only [Bool.not_eq_true', Bool.not_eq_false', decide_eq_true_eq, decide_eq_false_iff_not] at h2)
      · have a2 : f.gone.length ≤ 80 := by omega
        refine run_gd_split (fun h3 => ?_) (fun h3 => ?_) <;> simp only [h3] <;> simp [Tryz.ntmps11, Tryz.results11] <;> (try simp only [Bool.not_eq_true', Bool.not_eq_false', decide_eq_true_eq, decide_eq_false_iff_not] at h3)
        · have a3 : f.have_.length ≤ 80 := by omega
          exact fin0 (by simp [fewF, hi, h1, a2, a3]; try omega) rfl
        · have a3 : ¬ f.have_.length ≤ 80 := by omega
          first | (exact fin0 (by simp [fewF, a3]) rfl) | (refine ⟨by decide +kernel, ?_⟩; exact fin0 (by simp [fewF, a3]) rfl)
      · have a2 : ¬ f.gone.length ≤ 80 := by omega
        first | (exact fin0 (by simp [fewF, a2]) rfl) | (refine ⟨by decide +kernel, ?_⟩; exact fin0 (by simp [fewF, a2]) rfl)
    · first | (exact fin0 (by simp [fewF, h1]) rfl) | (refine ⟨by decide +kernel, ?_⟩; exact fin0 (by simp [fewF, h1]) rfl)
end Go.Proofs.YtbmnaehodmgibaaGreatDoor
end
section
namespace Go.Proofs.YtbmnaehodmgibaaGreatDoor
open Go.AI Go.G
set_option maxRecDepth 20000
theorem frame_ext {a b : G.Frame} (h1 : a.type = b.type) (h2 : a.epoch = b.epoch) (h3 : a.kind = b.kind) (h4 : a.nonce = b.nonce) (h5 : a.turn = b.turn) (h6 : a.err = b.err) (h7 : a.have_ = b.have_) : decide (a = b) = (decide (a.adds = b.adds) && decide (a.gone = b.gone) && decide (a.held = b.held)) := by
  obtain ⟨a1, a2, a3, a4, a5, a6, a7, a8, a9, a10⟩ := a
  obtain ⟨b1, b2, b3, b4, b5, b6, b7, b8, b9, b10⟩ := b
  simp only at h1 h2 h3 h4 h5 h6 h7
  subst h1 h2 h3 h4 h5 h6 h7
  rw [Bool.eq_iff_iff]; simp [and_assoc]
theorem sameF_r (a b : G.Frame) (hl : OkFrame a) : Ct Tryz.prog 59 [st (frameC a), st (frameC b)] [] [] (bool (decide (a = b))) [] := by
  refine Ct.of_body Tryz.func59 rfl mixed (by rw [Tryz.ntmps59]; simp) (CW.run 9999 400 rfl ?_)
  simp [Tryz.ntmps59, Tryz.results59]
  refine run_gd_split (fun h1 => ?_) (fun h1 => ?_) <;> simp only [h1] <;> simp [Tryz.ntmps59, Tryz.results59] <;> (try simp only [Bool.not_eq_true', Bool.not_eq_false', decide_eq_true_eq, decide_eq_false_iff_not] at h1)
  · have e : ¬ a = b := fun e => h1 (by rw [e])
    first | (exact fin0 (by simp [e]) rfl) | (refine ⟨by decide +kernel, ?_⟩; exact fin0 (by simp [e]) rfl)
  refine run_gd_split (fun h2 => ?_) (fun h2 => ?_) <;> simp only [h2] <;> simp [Tryz.ntmps59, Tryz.results59] <;> (try simp only [Bool.not_eq_true', Bool.not_eq_false', decide_eq_true_eq, decide_eq_false_iff_not] at h2)
  · have e : ¬ a = b := fun e => h2 (by rw [e])
    first | (exact fin0 (by simp [e]) rfl) | (refine ⟨by decide +kernel, ?_⟩; exact fin0 (by simp [e]) rfl)
  refine run_gd_split (fun h3 => ?_) (fun h3 => ?_) <;> simp only [h3] <;> simp [Tryz.ntmps59, Tryz.results59] <;> (try simp only [Bool.not_eq_true', Bool.not_eq_false', decide_eq_true_eq, decide_eq_false_iff_not] at h3)
  · have e : ¬ a = b := fun e => h3 (by rw [e])
    first | (exact fin0 (by simp [e]) rfl) | (refine ⟨by decide +kernel, ?_⟩; exact fin0 (by simp [e]) rfl)
  refine run_gd_split (fun h4 => ?_) (fun h4 => ?_) <;> simp only [h4] <;> simp [Tryz.ntmps59, Tryz.results59] <;> (try simp only [Bool.not_eq_true', Bool.not_eq_false', decide_eq_true_eq, decide_eq_false_iff_not] at h4)
  · have e : ¬ a = b := fun e => h4 (by rw [e])
    first | (exact fin0 (by simp [e]) rfl) | (refine ⟨by decide +kernel, ?_⟩; exact fin0 (by simp [e]) rfl)
  refine run_gd_split (fun h5 => ?_) (fun h5 => ?_) <;> simp only [h5] <;> simp [Tryz.ntmps59, Tryz.results59] <;> (try simp only [Bool.not_eq_true', Bool.not_eq_false', decide_eq_true_eq, decide_eq_false_iff_not] at h5)
  · have e : ¬ a = b := fun e => h5 (by rw [e])
    first | (exact fin0 (by simp [e]) rfl) | (refine ⟨by decide +kernel, ?_⟩; exact fin0 (by simp [e]) rfl)
  refine run_gd_split (fun h6 => ?_) (fun h6 => ?_) <;> simp only [h6] <;> simp [Tryz.ntmps59, Tryz.results59] <;> (try simp only [Bool.not_eq_true', Bool.not_eq_false', decide_eq_true_eq, decide_eq_false_iff_not] at h6)
  · have e : ¬ a = b := fun e => h6 (by rw [e])
    first | (exact fin0 (by simp [e]) rfl) | (refine ⟨by decide +kernel, ?_⟩; exact fin0 (by simp [e]) rfl)
  refine run_br_split (fun h7 => ?_) (fun h7 => ?_) <;> simp only [h7] <;> simp [Tryz.ntmps59, Tryz.results59] <;> (try simp only [Bool.not_eq_true', Bool.not_eq_false', decide_eq_true_eq, decide_eq_false_iff_not] at h7)
  · have e : ¬ a = b := fun e => h7 (by rw [e])
    first | (exact fin0 (by simp [e]) rfl) | (refine ⟨by decide +kernel, ?_⟩; exact fin0 (by simp [e]) rfl)
  have hab : a.have_.length = b.have_.length := by omega
  have hh := hl.have_
  refine LoopW.inv mixed (Plain.retC _ _ _ _ _) rfl (ι := {k : Nat // k ≤ (a.have_).length ∧ a.have_.take k = b.have_.take k}) (fun k => [(2, .ptr 64 0), (3, .ptr 65 0), (5, int k.1)]) (fun k => [(64, .cells ((frameC a).map .d) 31), (65, .cells ((frameC b).map .d) 31)]) 66 (fun k => (a.have_).length - k.1) ⟨0, by omega, by simp⟩ [] (by constructor <;> simp) ?_
  rintro ⟨k, hk1, hi⟩ B hB
  refine CW.run 9999 400 rfl ?_
  simp [Tryz.ntmps59, Tryz.results59]
  refine run_br_split (fun h => ?_) (fun h => ?_)
  · have hk : k < (a.have_).length := by simpa using h
    have hr : (a.have_)[k]? = some (a.have_)[k] := List.getElem?_eq_getElem hk
    have hm : (a.have_)[k] ∈ (a.have_) := List.getElem_mem hk
    have ht : (a.have_).take (k + 1) = (a.have_).take k ++ [(a.have_)[k]] := by rw [List.take_add_one, hr]; rfl
    have hd : (a.have_).drop k = (a.have_)[k] :: (a.have_).drop (k + 1) := List.drop_eq_getElem_cons hk
    have hw : IntKind.wrap .i64 ((k : Int) + 1) = k + 1 := wrap_i64 (by omega) (by omega)
    obtain ⟨x, hx⟩ : ∃ x0, (a.have_)[k] = x0 := ⟨_, rfl⟩
    rw [hx] at hr hm ht hd
    simp only [h]
    simp [hr, hw, Tryz.ntmps59, Tryz.results59]
    have hrb : b.have_[k]? = some b.have_[k] := List.getElem?_eq_getElem (by omega)
    have htb : b.have_.take (k + 1) = b.have_.take k ++ [b.have_[k]] := by rw [List.take_add_one, hrb]; rfl
    have hne : x ≠ b.have_[k] → ¬ a = b := by
      intro h2 e; subst e; rw [hr] at hrb; cases hrb; exact h2 rfl
    generalize b.have_[k] = y at hrb htb hne
    simp [hrb, Tryz.ntmps59, Tryz.results59]
    refine ⟨by decide +kernel, ?_⟩
    refine run_br_split (fun h8 => ?_) (fun h8 => ?_) <;> simp only [h8] <;> simp [hr, hrb, Tryz.ntmps59, Tryz.results59] <;> (try simp only [Bool.not_eq_true', Bool.not_eq_false', decide_eq_true_eq, decide_eq_false_iff_not] at h8)
    · have e : ¬ a = b := hne (fun e => by subst e; simp at h8)
      first | (exact fin0 (by simp [e]) rfl) | (refine ⟨by decide +kernel, ?_⟩; exact fin0 (by simp [e]) rfl)
    · have e : x = y := by
        have := mark_eq x y
        rw [Bool.eq_iff_iff] at this
        simp at h8 this
        exact this.1 (by simpa [and_assoc] using h8)
      refine hB _ ⟨k + 1, by omega, by rw [ht, htb, hi, e]⟩ [] ?_ (by simp; omega)
      constructor <;> simp [hw]
  · have hkl : k = (a.have_).length := by simp at h; omega
    subst hkl
    simp only [h]
    simp [List.take_length, List.drop_length, Tryz.ntmps59, Tryz.results59]
    have e : a.have_ = b.have_ := by
      rw [List.take_length, hab, List.take_length] at hi; exact hi
    rw [frame_ext h1 h2 h3 h4 h5 h6 e]
    refine CW.callP (all_r a.adds b.adds hl.adds) Tryz.call45 rfl rfl rfl (by first | exact .inl rfl | exact .inr ⟨_, _, rfl, by simp⟩ | exact .inr ⟨_, _, rfl, by simp [*]⟩) rfl (by simp) rfl rfl (CW.runOps 9999 400 rfl ?_)
    simp [Tryz.ntmps59, Tryz.results59]
    refine run_gd_split (fun h8 => ?_) (fun h8 => ?_) <;> simp only [h8] <;> simp [Tryz.ntmps59, Tryz.results59] <;> (try simp only [Bool.not_eq_true', Bool.not_eq_false', decide_eq_true_eq, decide_eq_false_iff_not] at h8)
    · refine CW.callP (keysEq_r a.gone b.gone hl.gone) Tryz.call58 rfl rfl rfl (by first | exact .inl rfl | exact .inr ⟨_, _, rfl, by simp⟩ | exact .inr ⟨_, _, rfl, by simp [*]⟩) rfl (by simp) rfl rfl (CW.runOps 9999 400 rfl ?_)
      simp [Tryz.ntmps59, Tryz.results59]
      refine run_gd_split (fun h9 => ?_) (fun h9 => ?_) <;> simp only [h9] <;> simp [Tryz.ntmps59, Tryz.results59] <;> (try simp only [Bool.not_eq_true', Bool.not_eq_false', decide_eq_true_eq, decide_eq_false_iff_not] at h9)
      · refine CW.callP (keysEq_r a.held b.held hl.held) Tryz.call58 rfl rfl rfl (by first | exact .inl rfl | exact .inr ⟨_, _, rfl, by simp⟩ | exact .inr ⟨_, _, rfl, by simp [*]⟩) rfl (by simp) rfl rfl (CW.runOps 9999 400 rfl ?_)
        simp [Tryz.ntmps59, Tryz.results59]
        first | (exact fin0 (by simp [h8, h9]) rfl) | (refine ⟨by decide +kernel, ?_⟩; exact fin0 (by simp [h8, h9]) rfl)
      · first | (exact fin0 (by simp [h9]) rfl) | (refine ⟨by decide +kernel, ?_⟩; exact fin0 (by simp [h9]) rfl)
    · first | (exact fin0 (by simp [h8]) rfl) | (refine ⟨by decide +kernel, ?_⟩; exact fin0 (by simp [h8]) rfl)
end Go.Proofs.YtbmnaehodmgibaaGreatDoor
end
section
namespace Go.Proofs.YtbmnaehodmgibaaGreatDoor
open Go.AI Go.G
set_option maxRecDepth 20000
theorem fewV_r (v : View) (hl : OkView v) : Ct Tryz.prog 50 [st (viewC v)] [] [] (bool (fewV v)) [] := by
  refine Ct.of_body Tryz.func50 rfl mixed (by rw [Tryz.ntmps50]; simp) (CW.run 9999 400 rfl ?_)
  simp [Tryz.ntmps50, Tryz.results50]
  refine CW.callP (few_r v.have_ hl.have_) Tryz.call49 rfl rfl rfl (by first | exact .inl rfl | exact .inr ⟨_, _, rfl, by simp⟩ | exact .inr ⟨_, _, rfl, by simp [*]⟩) rfl (by simp) rfl rfl (CW.runOps 9999 400 rfl ?_)
  simp [Tryz.ntmps50, Tryz.results50]
  refine run_gd_split (fun h1 => ?_) (fun h1 => ?_) <;> simp only [h1] <;> simp [Tryz.ntmps50, Tryz.results50] <;> (try simp only [Bool.not_eq_true', Bool.not_eq_false', decide_eq_true_eq, decide_eq_false_iff_not] at h1)
  · refine run_gd_split (fun h2 => ?_) (fun h2 => ?_) <;> simp only [h2] <;> simp [Tryz.ntmps50, Tryz.results50] <;> (try simp only [Bool.not_eq_true', Bool.not_eq_false', decide_eq_true_eq, decide_eq_false_iff_not] at h2)
    · have h2' : v.held.length ≤ 80 := by omega
      refine CW.callP (fewF_r v.push hl.push) Tryz.call11 rfl rfl rfl (by first | exact .inl rfl | exact .inr ⟨_, _, rfl, by simp⟩ | exact .inr ⟨_, _, rfl, by simp [*]⟩) rfl (by simp) rfl rfl (CW.runOps 9999 400 rfl ?_)
      simp [Tryz.ntmps50, Tryz.results50]
      first | (exact fin0 (by simp [fewV, h1, h2']) rfl) | (refine ⟨by decide +kernel, ?_⟩; exact fin0 (by simp [fewV, h1, h2']) rfl)
    · have h2' : ¬ v.held.length ≤ 80 := by omega
      first | (exact fin0 (by simp [fewV, h2']) rfl) | (refine ⟨by decide +kernel, ?_⟩; exact fin0 (by simp [fewV, h2']) rfl)
  · first | (exact fin0 (by simp [fewV, h1]) rfl) | (refine ⟨by decide +kernel, ?_⟩; exact fin0 (by simp [fewV, h1]) rfl)
end Go.Proofs.YtbmnaehodmgibaaGreatDoor
end
section
namespace Go.Proofs.YtbmnaehodmgibaaGreatDoor
open Go.AI Go.G
set_option maxRecDepth 20000
theorem isNaN_p (a : Int) : Ct Tryz.prog 292 [int a] [] [] (bool false) [] := by
  refine Ct.of_body Tryz.func292 rfl mixed (by rw [Tryz.ntmps292]; simp) (CW.run 9999 400 rfl ?_)
  simp [Tryz.ntmps292, Tryz.results292]
  first | (exact fin0 (by simp) rfl) | (refine ⟨by decide +kernel, ?_⟩; exact fin0 (by simp) rfl)
theorem compare_p (a b : Int) : Ct Tryz.prog 226 [int a, int b] [] [] (int (if a < b then -1 else if b < a then 1 else 0)) [] := by
  refine Ct.of_body Tryz.func226 rfl mixed (by rw [Tryz.ntmps226]; simp) (CW.run 9999 400 rfl ?_)
  simp [Tryz.ntmps226, Tryz.results226]
  refine CW.callP (isNaN_p a) Tryz.call292 rfl rfl rfl (by first | exact .inl rfl | exact .inr ⟨_, _, rfl, by simp⟩ | exact .inr ⟨_, _, rfl, by simp [*]⟩) rfl (by simp) rfl rfl (CW.runOps 9999 400 rfl ?_)
  simp [Tryz.ntmps226, Tryz.results226]
  refine CW.callP (isNaN_p b) Tryz.call292 rfl rfl rfl (by first | exact .inl rfl | exact .inr ⟨_, _, rfl, by simp⟩ | exact .inr ⟨_, _, rfl, by simp [*]⟩) rfl (by simp) rfl rfl (CW.runOps 9999 400 rfl ?_)
  simp [Tryz.ntmps226, Tryz.results226]
  refine run_br_split (fun h1 => ?_) (fun h1 => ?_) <;> simp only [h1] <;> simp [Tryz.ntmps226, Tryz.results226] <;> (try simp only [Bool.not_eq_true', Bool.not_eq_false', decide_eq_true_eq, decide_eq_false_iff_not] at h1)
  · first | (exact fin0 (by simp [h1]) rfl) | (refine ⟨by decide +kernel, ?_⟩; exact fin0 (by simp [h1]) rfl)
  refine run_br_split (fun h2 => ?_) (fun h2 => ?_) <;> simp only [h2] <;> simp [Tryz.ntmps226, Tryz.results226] <;> (try simp only [Bool.not_eq_true', Bool.not_eq_false', decide_eq_true_eq, decide_eq_false_iff_not] at h2)
  · first | (exact fin0 (by simp [h1, h2]) rfl) | (refine ⟨by decide +kernel, ?_⟩; exact fin0 (by simp [h1, h2]) rfl)
  · first | (exact fin0 (by simp [h1, h2]) rfl) | (refine ⟨by decide +kernel, ?_⟩; exact fin0 (by simp [h1, h2]) rfl)
def orI (l : List Int) : Int := (l.find? fun x => !decide (x = 0)).getD 0
theorem or_p (l : List Int) (hl : l.length ≤ 9223372036854775807) : Ct Tryz.prog 225 [.own 0] [(0, .grow 1 (l.map intC) 3)] [] (int (orI l)) [] := by
  refine Ct.of_body Tryz.func225 rfl mixed (by rw [Tryz.ntmps225]; simp) (CW.run 9999 400 rfl ?_)
  simp [Tryz.ntmps225, Tryz.results225]
  refine LoopW.inv mixed (Plain.retC _ _ _ _ _) rfl (ι := {k : Nat // k ≤ (l).length ∧ (l.take k).all (fun x => !!decide (x = 0)) = true}) (fun k => [(3, int 0), (6, .own 0), (7, int l.length), (8, int k.1)]) (fun k => [(0, .grow 1 (l.map intC) 3)]) 64 (fun k => (l).length - k.1) ⟨0, by omega, by simp⟩ [] (by constructor <;> simp) ?_
  rintro ⟨k, hk1, hi⟩ B hB
  refine CW.run 9999 400 rfl ?_
  simp [Tryz.ntmps225, Tryz.results225]
  refine run_br_split (fun h => ?_) (fun h => ?_)
  · have hk : k < (l).length := by simpa using h
    have hr : (l)[k]? = some (l)[k] := List.getElem?_eq_getElem hk
    have hm : (l)[k] ∈ (l) := List.getElem_mem hk
    have ht : (l).take (k + 1) = (l).take k ++ [(l)[k]] := by rw [List.take_add_one, hr]; rfl
    have hd : (l).drop k = (l)[k] :: (l).drop (k + 1) := List.drop_eq_getElem_cons hk
    have hw : IntKind.wrap .i64 ((k : Int) + 1) = k + 1 := wrap_i64 (by omega) (by omega)
    obtain ⟨x, hx⟩ : ∃ x0, (l)[k] = x0 := ⟨_, rfl⟩
    rw [hx] at hr hm ht hd
    simp only [h]
    simp [hr, hw, hk, Tryz.ntmps225, Tryz.results225]
    refine run_br_split (fun h1 => ?_) (fun h1 => ?_) <;> simp only [h1] <;> simp [hx, Tryz.ntmps225, Tryz.results225] <;> (try simp only [Bool.not_eq_true', Bool.not_eq_false', decide_eq_true_eq, decide_eq_false_iff_not] at h1)
    · rw [hx] at h1
      have e : orI l = x := by simp [orI, find_at hi hr (by simpa using h1)]
      first | (refine ⟨[], ?_, ?_, ?_, ?_, ?_, ?_, ?_⟩ <;> simp [nmF, inB, e, hx]; done) | (refine ⟨by decide +kernel, ?_⟩; refine ⟨[], ?_, ?_, ?_, ?_, ?_, ?_, ?_⟩ <;> simp [nmF, inB, e, hx])
    · rw [hx] at h1
      refine hB _ ⟨k + 1, by omega, by rw [ht, List.all_append, hi]; simp [h1]⟩ [] ?_ (by simp; omega)
      constructor <;> simp [hw]
  · have hkl : k = (l).length := by simp at h; omega
    subst hkl
    simp only [h]
    simp [List.take_length, List.drop_length, Tryz.ntmps225, Tryz.results225]
    rw [List.take_length] at hi
    have e : orI l = 0 := by simp [orI, find_none hi]
    first | (refine ⟨[], ?_, ?_, ?_, ?_, ?_, ?_, ?_⟩ <;> simp [nmF, inB, e]; done) | (refine ⟨by decide +kernel, ?_⟩; refine ⟨[], ?_, ?_, ?_, ?_, ?_, ?_, ?_⟩ <;> simp [nmF, inB, e])
theorem cmpK_p (a b : Key) : Ct Tryz.prog 170 [st (keyC a), st (keyC b)] [] [] (int (cmpK a b)) [] := by
  refine Ct.of_body Tryz.func170 rfl mixed (by rw [Tryz.ntmps170]; simp) (CW.run 9999 400 rfl ?_)
  simp [Tryz.ntmps170, Tryz.results170]
  refine CW.callP (compare_p a.kind b.kind) Tryz.call226 rfl rfl rfl (by first | exact .inl rfl | exact .inr ⟨_, _, rfl, by simp⟩ | exact .inr ⟨_, _, rfl, by simp [*]⟩) rfl (by simp) rfl rfl (CW.runOps 9999 400 rfl ?_)
  simp [Tryz.ntmps170, Tryz.results170]
  refine CW.callP (cmp_p a.name b.name) Tryz.call227 rfl rfl rfl (by first | exact .inl rfl | exact .inr ⟨_, _, rfl, by simp⟩ | exact .inr ⟨_, _, rfl, by simp [*]⟩) rfl (by simp) rfl rfl (CW.runOps 9999 400 rfl ?_)
  simp [Tryz.ntmps170, Tryz.results170]
  refine CW.callC [896] (or_p [if a.kind < b.kind then -1 else if b.kind < a.kind then 1 else 0, cmpS a.name b.name] (by simp)) Tryz.call225 rfl rfl rfl (by first | exact .inl rfl | exact .inr ⟨_, _, rfl, by simp⟩ | exact .inr ⟨_, _, rfl, by simp [*]⟩) rfl (by simp) (by constructor <;> simp [nmOk]) (by simp) (CW.runOps 9999 400 rfl ?_)
  simp [Tryz.ntmps170, Tryz.results170]
  refine ⟨by decide +kernel, ?_⟩
  have e : orI [if a.kind < b.kind then -1 else if b.kind < a.kind then 1 else 0, cmpS a.name b.name] = cmpK a b := by
    unfold orI cmpK
    by_cases h1 : a.kind < b.kind
    · simp [h1]
    · by_cases h2 : b.kind < a.kind
      · simp [h1, h2]
      · by_cases h3 : cmpS a.name b.name = 0 <;> simp [h1, h2, h3]
  first | (exact fin0 (by simp [e]) rfl) | (refine ⟨by decide +kernel, ?_⟩; exact fin0 (by simp [e]) rfl)
theorem isP (k_ : Key) (r : Res) : Ct Tryz.prog 167 [st (resC r), .d (.pro (keyC k_))] [] [] (bool (decide (r.key = k_))) [] := by
  refine Ct.of_body Tryz.func167 rfl mixed (by rw [Tryz.ntmps167]; simp) (CW.run 9999 400 rfl ?_)
  simp [Tryz.ntmps167, Tryz.results167]
  refine CW.callP (key_p r) Tryz.call97 rfl rfl rfl (by first | exact .inl rfl | exact .inr ⟨_, _, rfl, by simp⟩ | exact .inr ⟨_, _, rfl, by simp [*]⟩) rfl (by simp) rfl rfl (CW.runOps 9999 400 rfl ?_)
  simp [Tryz.ntmps167, Tryz.results167]
  rw [key_eq]
  refine ⟨by decide +kernel, ?_⟩
  first | (exact fin0 (by simp) rfl) | (refine ⟨by decide +kernel, ?_⟩; exact fin0 (by simp) rfl)
theorem is_p (k_ : Key) : Ct Tryz.prog 94 [st (keyC k_)] [] [] (.d (.fn (.func 167) [] [.pro (keyC k_)])) [] := by
  refine Ct.of_body Tryz.func94 rfl mixed (by rw [Tryz.ntmps94]; simp) (CW.run 9999 400 rfl ?_)
  simp [Tryz.ntmps94, Tryz.results94]
  first | (exact fin0 (by simp) rfl) | (refine ⟨by decide +kernel, ?_⟩; exact fin0 (by simp) rfl)
theorem get_p (l : List Res) (k_ : Key) (hl : l.length ≤ 9223372036854775807) : Ct Tryz.prog 35 [lst (l.map resC), st (keyC k_)] [] [] (getA l k_) [] := by
  refine Ct.of_body Tryz.func35 rfl mixed (by rw [Tryz.ntmps35]; simp) (CW.run 9999 400 rfl ?_)
  simp [Tryz.ntmps35, Tryz.results35]
  refine CW.callP (is_p k_) Tryz.call94 rfl rfl rfl (by first | exact .inl rfl | exact .inr ⟨_, _, rfl, by simp⟩ | exact .inr ⟨_, _, rfl, by simp [*]⟩) rfl (by simp) rfl rfl (CW.runOps 9999 400 rfl ?_)
  simp [Tryz.ntmps35, Tryz.results35]
  refine CW.callP (idx_res l (.fn (.func 167) [] [.pro (keyC k_)]) (fun r => decide (r.key = k_)) (fun r hr => FnOk.clo (by exact isP k_ r) Tryz.call167 rfl rfl) hl) Tryz.call93 rfl rfl rfl (by first | exact .inl rfl | exact .inr ⟨_, _, rfl, by simp⟩ | exact .inr ⟨_, _, rfl, by simp [*]⟩) rfl (by simp) rfl rfl (CW.runOps 9999 400 rfl ?_)
  simp [Tryz.ntmps35, Tryz.results35]
  rcases find_idx (fun r : Res => decide (r.key = k_)) l with ⟨h1, h2⟩ | ⟨i, x, h1, h2, h3, h4⟩
  · have e : getR l k_ = none := h2
    simp [h1, Tryz.ntmps35, Tryz.results35]
    first | (exact fin0 (by simp [e, zRes]) rfl) | (refine ⟨by decide +kernel, ?_⟩; exact fin0 (by simp [e, zRes]) rfl)
  · have e : getR l k_ = some x := h4
    have hx : l[i] = x := by rw [List.getElem?_eq_getElem h2] at h3; exact Option.some.inj h3
    simp [h1, h2, h3, hx, Tryz.ntmps35, Tryz.results35]
    first | (exact fin0 (by simp [e]) rfl) | (refine ⟨by decide +kernel, ?_⟩; exact fin0 (by simp [e]) rfl)
theorem filter_p (l : List Res) (kf : D) (p : Res → Bool) (hf : ∀ x ∈ l, FnOk Tryz.prog (.d kf) [st (resC x)] (bool (p x))) (hl : l.length ≤ 1000000) : Ct Tryz.prog 162 [lst (l.map resC), .d kf] [] [] (lst ((l.filter p).map resC)) [] := by
  refine Ct.of_body Tryz.func162 rfl mixed (by rw [Tryz.ntmps162]; simp) (CW.run 9999 400 rfl ?_)
  simp [Tryz.ntmps162, Tryz.results162]
  refine LoopW.nilOwn 5 7 85 rfl ?_
  refine LoopW.inv mixed (Plain.retC _ _ _ _ _) rfl (ι := {k : Nat // k ≤ (l).length}) (fun k => [(0, lst (l.map resC)), (1, .d kf), (5, .own 64), (8, lst (l.map resC)), (9, int l.length), (10, int k.1)]) (fun k => [(64, .grow 7 (((l.take k.1).filter p).map resC) 85)]) 65 (fun k => (l).length - k.1) ⟨0, by omega⟩ [] (by constructor <;> simp) ?_
  rintro ⟨k, hk1⟩ B hB
  refine CW.run 9999 400 rfl ?_
  simp [Tryz.ntmps162, Tryz.results162]
  refine run_br_split (fun h => ?_) (fun h => ?_)
  · have hk : k < (l).length := by simpa using h
    have hr : (l)[k]? = some (l)[k] := List.getElem?_eq_getElem hk
    have hm : (l)[k] ∈ (l) := List.getElem_mem hk
    have ht : (l).take (k + 1) = (l).take k ++ [(l)[k]] := by rw [List.take_add_one, hr]; rfl
    have hd : (l).drop k = (l)[k] :: (l).drop (k + 1) := List.drop_eq_getElem_cons hk
    have hw : IntKind.wrap .i64 ((k : Int) + 1) = k + 1 := wrap_i64 (by omega) (by omega)
    obtain ⟨x, hx⟩ : ∃ x0, (l)[k] = x0 := ⟨_, rfl⟩
    rw [hx] at hr hm ht hd
    simp only [h]
    simp [hr, hw, Tryz.ntmps162, Tryz.results162]
    have hlen : ((l.take k).filter p).length ≤ 1000000 := Nat.le_trans (List.length_filter_le _ _) (by simp; omega)
    refine CW.callF (hf x hm) rfl rfl rfl (by first | exact .inl rfl | exact .inr ⟨_, _, rfl, by simp⟩ | exact .inr ⟨_, _, rfl, by simp [*]⟩) rfl (by simp) (CW.runOps 9999 400 rfl ?_)
    simp [Tryz.ntmps162, Tryz.results162]
    refine run_br_split (fun h1 => ?_) (fun h1 => ?_) <;> simp only [h1] <;> simp [hr, Tryz.ntmps162, Tryz.results162] <;> (try simp only [Bool.not_eq_true', Bool.not_eq_false', decide_eq_true_eq, decide_eq_false_iff_not] at h1)
    · refine ⟨by omega, ?_⟩
      refine hB _ ⟨k + 1, by omega⟩ [] ?_ (by simp; omega)
      constructor <;> simp [hw, ht, List.filter_append, h1]
    · refine hB _ ⟨k + 1, by omega⟩ [] ?_ (by simp; omega)
      constructor <;> simp [hw, ht, List.filter_append, h1]
  · have hkl : k = (l).length := by simp at h; omega
    subst hkl
    simp only [h]
    simp [List.take_length, List.drop_length, Tryz.ntmps162, Tryz.results162]
    first | (exact fin0 (by simp) rfl) | (refine ⟨by decide +kernel, ?_⟩; exact fin0 (by simp) rfl)
theorem withP2 (k_ : Key) (c : Int) (r : Res) : Ct Tryz.prog 277 [st (resC r), .d (.pro (keyC k_)), .d (.pro [iD c])] [] [] (bool (decide (cmpK r.key k_ = c))) [] := by
  refine Ct.of_body Tryz.func277 rfl mixed (by rw [Tryz.ntmps277]; simp) (CW.run 9999 400 rfl ?_)
  simp [Tryz.ntmps277, Tryz.results277]
  refine CW.callP (key_p r) Tryz.call97 rfl rfl rfl (by first | exact .inl rfl | exact .inr ⟨_, _, rfl, by simp⟩ | exact .inr ⟨_, _, rfl, by simp [*]⟩) rfl (by simp) rfl rfl (CW.runOps 9999 400 rfl ?_)
  simp [Tryz.ntmps277, Tryz.results277]
  refine CW.callP (cmpK_p r.key k_) Tryz.call170 rfl rfl rfl (by first | exact .inl rfl | exact .inr ⟨_, _, rfl, by simp⟩ | exact .inr ⟨_, _, rfl, by simp [*]⟩) rfl (by simp) rfl rfl (CW.runOps 9999 400 rfl ?_)
  simp [Tryz.ntmps277, Tryz.results277]
  refine ⟨by decide +kernel, ?_⟩
  first | (exact fin0 (by simp) rfl) | (refine ⟨by decide +kernel, ?_⟩; exact fin0 (by simp) rfl)
theorem withP1 (l : List Res) (k_ : Key) (c : Int) (hl : l.length ≤ 1000000) : Ct Tryz.prog 276 [int c, .d (.pro [lD (l.map resC)]), .d (.pro (keyC k_))] [] [] (lst ((partR l k_ c).map resC)) [] := by
  refine Ct.of_body Tryz.func276 rfl mixed (by rw [Tryz.ntmps276]; simp) (CW.run 1 400 rfl ?_)
  simp [Tryz.ntmps276, Tryz.results276]
  refine CW.sub (tm := [(1, .d (.pro [lD (l.map resC)])), (2, .d (.pro (keyC k_))), (3, .d (.pro [iD c]))]) (m := []) (nx := 65) [] [64] rfl (by constructor <;> simp) ?_
  refine CW.run 9999 400 rfl ?_
  simp [Tryz.ntmps276, Tryz.results276]
  refine CW.callP (filter_p l (.fn (.func 277) [] [.pro (keyC k_), .pro [iD c]]) (fun r => decide (cmpK r.key k_ = c)) (fun r hr => FnOk.clo (by exact withP2 k_ c r) Tryz.call277 rfl rfl) hl) Tryz.call162 rfl rfl rfl (by first | exact .inl rfl | exact .inr ⟨_, _, rfl, by simp⟩ | exact .inr ⟨_, _, rfl, by simp [*]⟩) rfl (by simp) rfl rfl (CW.runOps 9999 400 rfl ?_)
  simp [Tryz.ntmps276, Tryz.results276]
  first | (exact fin0 (by simp) rfl) | (refine ⟨by decide +kernel, ?_⟩; exact fin0 (by simp) rfl)
end Go.Proofs.YtbmnaehodmgibaaGreatDoor
end
section
namespace Go.Proofs.YtbmnaehodmgibaaGreatDoor
open Go.AI Go.G
set_option maxRecDepth 20000
abbrev zResD : List D := [iD 0, sD ⟨#[]⟩, iD 0, iD 0, sD ⟨#[]⟩, .v (.slice none 0 0), .v (.slice none 0 0)]
theorem growR (n : Int) (h0 : 0 < n) (h1 : n ≤ 2000000) : Ct Tryz.prog 322 [.d (.v (.slice none 0 0)), int n] [] [] (.sl 64 7 0 0) [(64, .grow 7 (List.replicate n.toNat zResD) 85)] := by
  refine Ct.of_body Tryz.func322 rfl mixed (by rw [Tryz.ntmps322]; simp) (CW.run 9999 400 rfl ?_)
  simp [Tryz.ntmps322, Tryz.results322]
  have g1 : ¬ n < 0 := by omega
  have g2 : IntKind.wrap .i64 n = n := wrap_i64 (by omega) (by omega)
  simp [g1, g2, h0, Tryz.ntmps322, Tryz.results322]
  refine ⟨⟨by omega, by omega⟩, by omega, ?_⟩
  first | (refine ⟨[(64, 1216)], ?_, ?_, ?_, ?_, ?_, ?_, ?_⟩ <;> simp [nmF, inB, zResD]; done) | (refine ⟨by decide +kernel, ?_⟩; refine ⟨[(64, 1216)], ?_, ?_, ?_, ?_, ?_, ?_, ?_⟩ <;> simp [nmF, inB, zResD])
theorem concat3 (a b c : List Res) (h0 : 0 < a.length + b.length + c.length) (h1 : a.length + b.length + c.length ≤ 2000000) : Ct Tryz.prog 278 [.own 0] [(0, .grow 1 [[lD (a.map resC)], [lD (b.map resC)], [lD (c.map resC)]] 26)] [] (.own 64) [(64, .grow 7 ((a ++ b ++ c).map resC) 85)] := by
  refine Ct.of_body Tryz.func278 rfl mixed (by rw [Tryz.ntmps278]; simp) (CW.run 9999 400 rfl ?_)
  simp [Tryz.ntmps278, Tryz.results278]
  have w1 : IntKind.wrap .i64 (a.length : Int) = a.length := wrap_i64 (by omega) (by omega)
  have w2 : IntKind.wrap .i64 ((a.length : Int) + b.length) = a.length + b.length := wrap_i64 (by omega) (by omega)
  have w3 : IntKind.wrap .i64 ((a.length : Int) + b.length + c.length) = a.length + b.length + c.length := wrap_i64 (by omega) (by omega)
  have v1 : ¬ ((a.length : Int) < 0) := by omega
  have v2 : ¬ ((a.length : Int) + b.length < 0) := by omega
  have v3 : ¬ ((a.length : Int) + b.length + c.length < 0) := by omega
  refine LoopW.unroll mixed (Plain.retC _ _ _ _ _) rfl ?_
  refine CW.run 9999 400 rfl ?_
  simp [w1, v1, Tryz.ntmps278, Tryz.results278]
  refine LoopW.unroll mixed (Plain.retC _ _ _ _ _) rfl ?_
  refine CW.run 9999 400 rfl ?_
  simp [w2, v2, Tryz.ntmps278, Tryz.results278]
  refine LoopW.unroll mixed (Plain.retC _ _ _ _ _) rfl ?_
  refine CW.run 9999 400 rfl ?_
  simp [w3, v3, Tryz.ntmps278, Tryz.results278]
  refine LoopW.unroll mixed (Plain.retC _ _ _ _ _) rfl ?_
  refine CW.run 9999 400 rfl ?_
  simp [Tryz.ntmps278, Tryz.results278]
  refine CW.callC [] (growR ((a.length : Int) + b.length + c.length) (by omega) (by omega)) Tryz.call322 rfl rfl rfl (by first | exact .inl rfl | exact .inr ⟨_, _, rfl, by simp⟩ | exact .inr ⟨_, _, rfl, by simp [*]⟩) rfl (by simp) (by constructor <;> simp [nmOk]) (by simp) (CW.runOps 9999 400 rfl ?_)
  simp [Tryz.ntmps278, Tryz.results278]
  refine LoopW.unroll mixed (Plain.retC _ _ _ _ _) rfl ?_
  refine CW.run 9999 400 rfl ?_
  simp [Tryz.ntmps278, Tryz.results278]
  refine ⟨by omega, ?_⟩
  refine LoopW.unroll mixed (Plain.retC _ _ _ _ _) rfl ?_
  refine CW.run 9999 400 rfl ?_
  simp [Tryz.ntmps278, Tryz.results278]
  refine ⟨by omega, ?_⟩
  refine LoopW.unroll mixed (Plain.retC _ _ _ _ _) rfl ?_
  refine CW.run 9999 400 rfl ?_
  simp [Tryz.ntmps278, Tryz.results278]
  refine ⟨by omega, ?_⟩
  refine LoopW.unroll mixed (Plain.retC _ _ _ _ _) rfl ?_
  refine CW.run 9999 400 rfl ?_
  simp [Tryz.ntmps278, Tryz.results278]
  first | (refine ⟨[(64, 4992)], ?_, ?_, ?_, ?_, ?_, ?_, ?_⟩ <;> simp [nmF, inB]; done) | (refine ⟨by decide +kernel, ?_⟩; refine ⟨[(64, 4992)], ?_, ?_, ?_, ?_, ?_, ?_, ?_⟩ <;> simp [nmF, inB])
theorem with_p (l : List Res) (r : Res) (hl : l.length ≤ 1000000) : Ct Tryz.prog 218 [lst (l.map resC), st (resC r)] [] [] (lst ((withR l r).map resC)) [] := by
  refine Ct.of_body Tryz.func218 rfl mixed (by rw [Tryz.ntmps218]; simp) (CW.run 2 400 rfl ?_)
  simp [Tryz.ntmps218, Tryz.results218]
  refine CW.callP (key_p r) Tryz.call97 rfl rfl rfl (by first | exact .inl rfl | exact .inr ⟨_, _, rfl, by simp⟩ | exact .inr ⟨_, _, rfl, by simp [*]⟩) rfl (by simp) rfl rfl (CW.runOps 2 400 rfl ?_)
  simp [Tryz.ntmps218, Tryz.results218]
  refine CW.sub (tm := [(2, .d (.pro [lD (l.map resC)])), (3, .ptr 64 0), (5, .d (.pro (keyC r.key)))]) (m := [(64, .cells ((resC r).map .d) 85)]) (nx := 65) [(64, 128)] [64, 384] rfl (by constructor <;> simp) ?_
  refine CW.run 9999 400 rfl ?_
  simp [Tryz.ntmps218, Tryz.results218]
  refine CW.callF (FnOk.clo (args := [int (-1)]) (by exact withP1 l r.key (-1) hl) Tryz.call276 rfl rfl) rfl rfl rfl (by first | exact .inl rfl | exact .inr ⟨_, _, rfl, by simp⟩ | exact .inr ⟨_, _, rfl, by simp [*]⟩) rfl (by simp) (CW.runOps 9999 400 rfl ?_)
  simp [Tryz.ntmps218, Tryz.results218]
  refine CW.callF (FnOk.clo (args := [int 1]) (by exact withP1 l r.key 1 hl) Tryz.call276 rfl rfl) rfl rfl rfl (by first | exact .inl rfl | exact .inr ⟨_, _, rfl, by simp⟩ | exact .inr ⟨_, _, rfl, by simp [*]⟩) rfl (by simp) (CW.runOps 9999 400 rfl ?_)
  simp [Tryz.ntmps218, Tryz.results218]
  have h1 := withR_len l r
  simp only [withR, List.length_append, List.length_cons, List.length_nil] at h1
  refine CW.callC [577] (concat3 (partR l r.key (-1)) [r] (partR l r.key 1) (by simp; omega) (by simp only [List.length_cons, List.length_nil]; omega)) Tryz.call278 rfl rfl rfl (by first | exact .inl rfl | exact .inr ⟨_, _, rfl, by simp⟩ | exact .inr ⟨_, _, rfl, by simp [*]⟩) rfl (by simp) (by constructor <;> simp [nmOk]) (by simp) (CW.runOps 9999 400 rfl ?_)
  simp [Tryz.ntmps218, Tryz.results218]
  first | (exact fin0 (by simp) rfl) | (refine ⟨by decide +kernel, ?_⟩; exact fin0 (by simp) rfl)
theorem cloneE : Ct Tryz.prog 114 [lst []] [] [] (lst []) [] := by
  refine Ct.of_body Tryz.func114 rfl mixed (by rw [Tryz.ntmps114]; simp) (CW.run 9999 400 rfl ?_)
  simp [Tryz.ntmps114, Tryz.results114]
  refine ⟨?_, ?_⟩
  · first | (exact fin0 (by simp) rfl) | (refine ⟨by decide +kernel, ?_⟩; exact fin0 (by simp) rfl)
  · first | (exact fin0 (by simp) rfl) | (refine ⟨by decide +kernel, ?_⟩; exact fin0 (by simp) rfl)
theorem clone_p (x : Res) (l : List Res) (hl : l.length ≤ 1000000) : Ct Tryz.prog 114 [lst ((x :: l).map resC)] [] [] (.own 64) [(64, .grow 7 ((x :: l).map resC) 85)] := by
  refine Ct.of_body Tryz.func114 rfl mixed (by rw [Tryz.ntmps114]; simp) (CW.run 9999 400 rfl ?_)
  simp [Tryz.ntmps114, Tryz.results114]
  refine ⟨by omega, ?_⟩
  first | (refine ⟨[(64, 384)], ?_, ?_, ?_, ?_, ?_, ?_, ?_⟩ <;> simp [nmF, inB]; done) | (refine ⟨by decide +kernel, ?_⟩; refine ⟨[(64, 384)], ?_, ?_, ?_, ?_, ?_, ?_, ?_⟩ <;> simp [nmF, inB])
theorem idxO_res (l : List Res) (kf : D) (p : Res → Bool) (hf : ∀ x ∈ l, FnOk Tryz.prog (.d kf) [st (resC x)] (bool (p x))) (hl : l.length ≤ 9223372036854775807) : Ct Tryz.prog 93 [.own 0, .d kf] [(0, .grow 7 (l.map resC) 85)] [] (int (idxF p l)) [] := by
  refine Ct.of_body Tryz.func93 rfl mixed (by rw [Tryz.ntmps93]; simp) (CW.run 9999 400 rfl ?_)
  simp [Tryz.ntmps93, Tryz.results93]
  refine LoopW.inv mixed (Plain.retC _ _ _ _ _) rfl (ι := {k : Nat // k ≤ (l).length ∧ (l.take k).all (fun x => !p x) = true}) (fun k => [(0, .own 0), (1, .d kf), (7, int l.length), (8, int k.1)]) (fun k => [(0, .grow 7 (l.map resC) 85)]) 64 (fun k => (l).length - k.1) ⟨0, by omega, by simp⟩ [] (by constructor <;> simp) ?_
  rintro ⟨k, hk1, hi⟩ B hB
  refine CW.run 9999 400 rfl ?_
  simp [Tryz.ntmps93, Tryz.results93]
  refine run_br_split (fun h => ?_) (fun h => ?_)
  · have hk : k < (l).length := by simpa using h
    have hr : (l)[k]? = some (l)[k] := List.getElem?_eq_getElem hk
    have hm : (l)[k] ∈ (l) := List.getElem_mem hk
    have ht : (l).take (k + 1) = (l).take k ++ [(l)[k]] := by rw [List.take_add_one, hr]; rfl
    have hd : (l).drop k = (l)[k] :: (l).drop (k + 1) := List.drop_eq_getElem_cons hk
    have hw : IntKind.wrap .i64 ((k : Int) + 1) = k + 1 := wrap_i64 (by omega) (by omega)
    obtain ⟨r, hx⟩ : ∃ x0, (l)[k] = x0 := ⟨_, rfl⟩
    rw [hx] at hr hm ht hd
    simp only [h]
    simp [hr, hw, hk, Tryz.ntmps93, Tryz.results93]
    refine CW.callF (hf r hm) rfl rfl rfl (by first | exact .inl rfl | exact .inr ⟨_, _, rfl, by simp⟩ | exact .inr ⟨_, _, rfl, by simp [*]⟩) rfl (by simp [hx]) (CW.runOps 9999 400 rfl ?_)
    simp [hx, Tryz.ntmps93, Tryz.results93]
    refine run_br_split (fun hp => ?_) (fun hp => ?_) <;> simp only [hp] <;> simp [Tryz.ntmps93, Tryz.results93]
    · have e := idxF_at hi hr hp
      first | (refine ⟨[], ?_, ?_, ?_, ?_, ?_, ?_, ?_⟩ <;> simp [nmF, inB, e]; done) | (refine ⟨by decide +kernel, ?_⟩; refine ⟨[], ?_, ?_, ?_, ?_, ?_, ?_, ?_⟩ <;> simp [nmF, inB, e])
    · refine hB _ ⟨k + 1, by omega, by simp [ht, hi, hp]⟩ [] ?_ (by simp; omega)
      constructor <;> simp [hw, ht, hp]
  · have hkl : k = (l).length := by simp at h; omega
    subst hkl
    simp only [h]
    simp [List.take_length, List.drop_length, Tryz.ntmps93, Tryz.results93]
    rw [List.take_length] at hi
    have e : idxF p l = -1 := idxF_none (fun x hx => by have := List.all_eq_true.1 hi x hx; simpa using this)
    first | (refine ⟨[], ?_, ?_, ?_, ?_, ?_, ?_, ?_⟩ <;> simp [nmF, inB, e]; done) | (refine ⟨by decide +kernel, ?_⟩; refine ⟨[], ?_, ?_, ?_, ?_, ?_, ?_, ?_⟩ <;> simp [nmF, inB, e])
theorem delE (kf : D) : Ct Tryz.prog 113 [lst [], .d kf] [] [] (lst []) [] := by
  refine Ct.of_body Tryz.func113 rfl mixed (by rw [Tryz.ntmps113]; simp) (CW.run 9999 400 rfl ?_)
  simp [Tryz.ntmps113, Tryz.results113]
  refine CW.callP (idx_res [] kf (fun _ => false) (fun x hx => by simp at hx) (by simp)) Tryz.call93 rfl rfl rfl (by first | exact .inl rfl | exact .inr ⟨_, _, rfl, by simp⟩ | exact .inr ⟨_, _, rfl, by simp [*]⟩) rfl (by simp) rfl rfl (CW.runOps 9999 400 rfl ?_)
  simp [Tryz.ntmps113, Tryz.results113]
  simp [idxF, Tryz.ntmps113, Tryz.results113]
  first | (exact fin0 (by simp) rfl) | (refine ⟨by decide +kernel, ?_⟩; exact fin0 (by simp) rfl)
theorem delC (l : List Res) (kf : D) (p : Res → Bool) (hf : ∀ x ∈ l, FnOk Tryz.prog (.d kf) [st (resC x)] (bool (p x))) (hl : l.length ≤ 1000000) : Ct Tryz.prog 113 [.own 0, .d kf] [] [(0, .grow 7 (l.map resC) 85)] (lst ((l.filter fun x => !p x).map resC)) [] := by
  refine Ct.of_body Tryz.func113 rfl mixed (by rw [Tryz.ntmps113]; simp) (CW.run 9999 400 rfl ?_)
  simp [Tryz.ntmps113, Tryz.results113]
  refine CW.callC [0] (idxO_res l kf p hf (by omega)) Tryz.call93 rfl rfl rfl (by first | exact .inl rfl | exact .inr ⟨_, _, rfl, by simp⟩ | exact .inr ⟨_, _, rfl, by simp [*]⟩) rfl (by simp) (by constructor <;> simp [nmOk]) (by simp) (CW.runOps 9999 400 rfl ?_)
  simp [Tryz.ntmps113, Tryz.results113]
  rcases find_idx p l with ⟨h1, h2⟩ | ⟨i, x, h1, h2, h3, h4⟩
  · have e : (l.filter fun x => !p x) = l := by
      rw [List.filter_eq_self]; intro a ha
      have := List.find?_eq_none.1 h2 a ha; simpa using this
    simp [h1, Tryz.ntmps113, Tryz.results113]
    first | (refine ⟨[], ?_, ?_, ?_, ?_, ?_, ?_, ?_⟩ <;> simp [nmF, inB, e]; done) | (refine ⟨by decide +kernel, ?_⟩; refine ⟨[], ?_, ?_, ?_, ?_, ?_, ?_, ?_⟩ <;> simp [nmF, inB, e])
  · have hne : ¬ (i : Int) = -1 := by omega
    have hwi : IntKind.wrap .i64 ((i : Int) + 1) = i + 1 := wrap_i64 (by omega) (by omega)
    simp [h1, hne, hwi, Tryz.ntmps113, Tryz.results113]
    have d0 := DelSt.start (x := x) h1 h2
    refine LoopW.inv mixed (Plain.retC _ _ _ _ _) rfl (ι := {q : Nat × Nat × List Res // DelSt p l q.1 q.2.1 q.2.2}) (fun k => [(0, .own 0), (1, .d kf), (5, int k.1.2.1), (6, int k.1.1)]) (fun k => [(0, .grow 7 (k.1.2.2.map resC) 85)]) 64 (fun k => l.length - k.1.1) ⟨(i + 1, i, l), d0⟩ [] (by constructor <;> simp) ?_
    rintro ⟨⟨j, i, cur⟩, hd⟩ B hB
    clear h1 h2 h3 h4 hne hwi d0
    have hlen := hd.len
    have hlt := hd.lt
    have hle := hd.le
    simp only at hlen hlt hle
    have w1 : IntKind.wrap .i64 ((j : Int) + 1) = j + 1 := wrap_i64 (by omega) (by omega)
    have w2 : IntKind.wrap .i64 ((i : Int) + 1) = i + 1 := wrap_i64 (by omega) (by omega)
    refine CW.run 9999 400 rfl ?_
    simp [hlen, Tryz.ntmps113, Tryz.results113]
    refine run_br_split (fun h => ?_) (fun h => ?_) <;> simp only [h] <;> simp [Tryz.ntmps113, Tryz.results113] <;> (try simp only [Bool.not_eq_true', Bool.not_eq_false', decide_eq_true_eq, decide_eq_false_iff_not] at h)
    · have hj : j < l.length := by omega
      have hv : l[j]? = some l[j] := List.getElem?_eq_getElem hj
      have hm : l[j] ∈ l := List.getElem_mem hj
      generalize l[j] = v at hv hm
      have hg := hd.get hv
      have hjc : j < cur.length := by omega
      have hgx : cur[j] = v := by rw [List.getElem?_eq_getElem hjc] at hg; exact Option.some.inj hg
      simp [hjc, hgx, Tryz.ntmps113, Tryz.results113]
      refine CW.callF (hf v hm) rfl rfl rfl (by first | exact .inl rfl | exact .inr ⟨_, _, rfl, by simp⟩ | exact .inr ⟨_, _, rfl, by simp [*]⟩) rfl (by simp) (CW.runOps 9999 400 rfl ?_)
      simp [Tryz.ntmps113, Tryz.results113]
      have hic : i < cur.length := by omega
      refine run_br_split (fun h2 => ?_) (fun h2 => ?_) <;> simp only [h2] <;> simp [hic, Tryz.ntmps113, Tryz.results113]
      · have hp : p v = false := by simpa using h2
        refine hB _ ⟨(j + 1, i + 1, cur.set i v), hd.keep hv hp⟩ [] ?_ (by simp; omega)
        constructor <;> simp [w1, w2, List.map_set]
      · have hp : p v = true := by simpa using h2
        refine hB _ ⟨(j + 1, i, cur), hd.del hv hp⟩ [] ?_ (by simp; omega)
        constructor <;> simp [w1]
    · have hj : j = l.length := by omega
      subst hj
      have e : cur.take i = l.filter (fun x => !p x) := hd.done
      simp [hlen, Tryz.ntmps113, Tryz.results113]
      have e2 : List.take i (List.map resC cur) = List.map resC (List.filter (fun x => !p x) l) := by rw [← List.map_take, e]
      have e3 : (List.filter (fun x => !p x) l).length = i := by rw [← e, List.length_take]; omega
      refine ⟨by omega, by omega, by omega, ?_⟩
      rw [e2]
      first | (refine ⟨[], ?_, ?_, ?_, ?_, ?_, ?_, ?_⟩ <;> simp [nmF, inB, e3, List.take_append, show i ≤ i + (l.length - i + (l.length - (i + (l.length - i)))) from by omega]; done) | (refine ⟨by decide +kernel, ?_⟩; refine ⟨[], ?_, ?_, ?_, ?_, ?_, ?_, ?_⟩ <;> simp [nmF, inB, e3, List.take_append, show i ≤ i + (l.length - i + (l.length - (i + (l.length - i)))) from by omega])
theorem without_p (l : List Res) (k_ : Key) (hl : l.length ≤ 1000000) : Ct Tryz.prog 217 [lst (l.map resC), st (keyC k_)] [] [] (lst ((withoutR l k_).map resC)) [] := by
  refine Ct.of_body Tryz.func217 rfl mixed (by rw [Tryz.ntmps217]; simp) (CW.run 9999 400 rfl ?_)
  simp [Tryz.ntmps217, Tryz.results217]
  cases l with
  | nil =>
    refine CW.callP (cloneE ) Tryz.call114 rfl rfl rfl (by first | exact .inl rfl | exact .inr ⟨_, _, rfl, by simp⟩ | exact .inr ⟨_, _, rfl, by simp [*]⟩) rfl (by simp) rfl rfl (CW.runOps 9999 400 rfl ?_)
    simp [Tryz.ntmps217, Tryz.results217]
    refine CW.callP (is_p k_) Tryz.call94 rfl rfl rfl (by first | exact .inl rfl | exact .inr ⟨_, _, rfl, by simp⟩ | exact .inr ⟨_, _, rfl, by simp [*]⟩) rfl (by simp) rfl rfl (CW.runOps 9999 400 rfl ?_)
    simp [Tryz.ntmps217, Tryz.results217]
    refine CW.callP (delE (.fn (.func 167) [] [.pro (keyC k_)])) Tryz.call113 rfl rfl rfl (by first | exact .inl rfl | exact .inr ⟨_, _, rfl, by simp⟩ | exact .inr ⟨_, _, rfl, by simp [*]⟩) rfl (by simp) rfl rfl (CW.runOps 9999 400 rfl ?_)
    simp [Tryz.ntmps217, Tryz.results217]
    first | (exact fin0 (by simp) rfl) | (refine ⟨by decide +kernel, ?_⟩; exact fin0 (by simp) rfl)
  | cons x l =>
    refine CW.callC [] (clone_p x l (by simp at hl; omega)) Tryz.call114 rfl rfl rfl (by first | exact .inl rfl | exact .inr ⟨_, _, rfl, by simp⟩ | exact .inr ⟨_, _, rfl, by simp [*]⟩) rfl (by simp) (by constructor <;> simp [nmOk]) (by simp) (CW.runOps 9999 400 rfl ?_)
    simp [Tryz.ntmps217, Tryz.results217]
    refine CW.callP (is_p k_) Tryz.call94 rfl rfl rfl (by first | exact .inl rfl | exact .inr ⟨_, _, rfl, by simp⟩ | exact .inr ⟨_, _, rfl, by simp [*]⟩) rfl (by simp) rfl rfl (CW.runOps 9999 400 rfl ?_)
    simp [Tryz.ntmps217, Tryz.results217]
    refine CW.callC [256] (delC (x :: l) (.fn (.func 167) [] [.pro (keyC k_)]) (fun r => decide (r.key = k_)) (fun r hr => FnOk.clo (by exact isP k_ r) Tryz.call167 rfl rfl) hl) Tryz.call113 rfl rfl rfl (by first | exact .inl rfl | exact .inr ⟨_, _, rfl, by simp⟩ | exact .inr ⟨_, _, rfl, by simp [*]⟩) rfl (by simp) (by constructor <;> simp [nmOk]) (by simp) (CW.runOps 9999 400 rfl ?_)
    simp [Tryz.ntmps217, Tryz.results217]
    first | (exact fin0 (by simp) rfl) | (refine ⟨by decide +kernel, ?_⟩; exact fin0 (by simp) rfl)
theorem patch_p (l adds : List Res) (gone : List Key) (hl : l.length + adds.length ≤ 1000000) (hg : gone.length ≤ 9223372036854775807) : Ct Tryz.prog 159 [lst (l.map resC), lst (adds.map resC), lst (gone.map keyC)] [] [] (lst ((patchR l adds gone).map resC)) [] := by
  refine Ct.of_body Tryz.func159 rfl mixed (by rw [Tryz.ntmps159]; simp) (CW.run 9999 400 rfl ?_)
  simp [Tryz.ntmps159, Tryz.results159]
  refine LoopW.inv mixed (Plain.retC _ _ _ _ _) rfl (ι := {k : Nat // k ≤ (gone).length}) (fun k => [(0, lst (((gone.take k.1).foldl withoutR l).map resC)), (1, lst (adds.map resC)), (11, lst (gone.map keyC)), (12, int gone.length), (13, int k.1)]) (fun k => []) 64 (fun k => (gone).length - k.1) ⟨0, by omega⟩ [] (by constructor <;> simp) ?_
  rintro ⟨k, hk1⟩ B hB
  refine CW.run 9999 400 rfl ?_
  simp [Tryz.ntmps159, Tryz.results159]
  refine run_br_split (fun h => ?_) (fun h => ?_)
  · have hk : k < (gone).length := by simpa using h
    have hr : (gone)[k]? = some (gone)[k] := List.getElem?_eq_getElem hk
    have hm : (gone)[k] ∈ (gone) := List.getElem_mem hk
    have ht : (gone).take (k + 1) = (gone).take k ++ [(gone)[k]] := by rw [List.take_add_one, hr]; rfl
    have hd : (gone).drop k = (gone)[k] :: (gone).drop (k + 1) := List.drop_eq_getElem_cons hk
    have hw : IntKind.wrap .i64 ((k : Int) + 1) = k + 1 := wrap_i64 (by omega) (by omega)
    obtain ⟨x, hx⟩ : ∃ x0, (gone)[k] = x0 := ⟨_, rfl⟩
    rw [hx] at hr hm ht hd
    simp only [h]
    simp [hr, hw, Tryz.ntmps159, Tryz.results159]
    have h1 := fold_without_len (gone.take k) l
    refine CW.callP (without_p ((gone.take k).foldl withoutR l) x (by omega)) Tryz.call217 rfl rfl rfl (by first | exact .inl rfl | exact .inr ⟨_, _, rfl, by simp⟩ | exact .inr ⟨_, _, rfl, by simp [*]⟩) rfl (by simp) rfl rfl (CW.runOps 9999 400 rfl ?_)
    simp [Tryz.ntmps159, Tryz.results159]
    refine hB _ ⟨k + 1, by omega⟩ [] ?_ (by simp; omega)
    constructor <;> simp [hw, ht, List.foldl_append]
  · have hkl : k = (gone).length := by simp at h; omega
    subst hkl
    simp only [h]
    simp [List.take_length, List.drop_length, Tryz.ntmps159, Tryz.results159]
    have h1 := fold_without_len gone l
    refine LoopW.inv mixed (Plain.retC _ _ _ _ _) rfl (ι := {k : Nat // k ≤ (adds).length}) (fun k => [(0, lst (((adds.take k.1).foldl withR (gone.foldl withoutR l)).map resC)), (21, lst (adds.map resC)), (22, int adds.length), (23, int k.1)]) (fun k => []) 64 (fun k => (adds).length - k.1) ⟨0, by omega⟩ [] (by constructor <;> simp) ?_
    rintro ⟨k, hk1⟩ B hB
    refine CW.run 9999 400 rfl ?_
    simp [Tryz.ntmps159, Tryz.results159]
    refine run_br_split (fun h => ?_) (fun h => ?_)
    · have hk : k < (adds).length := by simpa using h
      have hr : (adds)[k]? = some (adds)[k] := List.getElem?_eq_getElem hk
      have hm : (adds)[k] ∈ (adds) := List.getElem_mem hk
      have ht : (adds).take (k + 1) = (adds).take k ++ [(adds)[k]] := by rw [List.take_add_one, hr]; rfl
      have hd : (adds).drop k = (adds)[k] :: (adds).drop (k + 1) := List.drop_eq_getElem_cons hk
      have hw : IntKind.wrap .i64 ((k : Int) + 1) = k + 1 := wrap_i64 (by omega) (by omega)
      obtain ⟨x, hx⟩ : ∃ x0, (adds)[k] = x0 := ⟨_, rfl⟩
      rw [hx] at hr hm ht hd
      simp only [h]
      simp [hr, hw, Tryz.ntmps159, Tryz.results159]
      have h2 := fold_with_len (adds.take k) (gone.foldl withoutR l)
      have h3 : (adds.take k).length ≤ adds.length := by simp; omega
      refine CW.callP (with_p ((adds.take k).foldl withR (gone.foldl withoutR l)) x (by omega)) Tryz.call218 rfl rfl rfl (by first | exact .inl rfl | exact .inr ⟨_, _, rfl, by simp⟩ | exact .inr ⟨_, _, rfl, by simp [*]⟩) rfl (by simp) rfl rfl (CW.runOps 9999 400 rfl ?_)
      simp [Tryz.ntmps159, Tryz.results159]
      refine hB _ ⟨k + 1, by omega⟩ [] ?_ (by simp; omega)
      constructor <;> simp [hw, ht, List.foldl_append]
    · have hkl : k = (adds).length := by simp at h; omega
      subst hkl
      simp only [h]
      simp [List.take_length, List.drop_length, Tryz.ntmps159, Tryz.results159]
      first | (exact fin0 (by simp [patchR]) rfl) | (refine ⟨by decide +kernel, ?_⟩; exact fin0 (by simp [patchR]) rfl)
theorem idxK_p (l : List Key) (k_ : Key) (hl : l.length ≤ 9223372036854775807) : Ct Tryz.prog 168 [lst (l.map keyC), st (keyC k_)] [] [] (int (idxF (fun x => decide (k_ = x)) l)) [] := by
  refine Ct.of_body Tryz.func168 rfl mixed (by rw [Tryz.ntmps168]; simp) (CW.run 9999 400 rfl ?_)
  simp [Tryz.ntmps168, Tryz.results168]
  refine LoopW.inv mixed (Plain.retC _ _ _ _ _) rfl (ι := {k : Nat // k ≤ (l).length ∧ (l.take k).all (fun x => !decide (k_ = x)) = true}) (fun k => [(0, lst (l.map keyC)), (3, .ptr 64 0), (6, lst (l.map keyC)), (7, int l.length), (8, int k.1)]) (fun k => [(64, .cells ((keyC k_).map .d) 89)]) 65 (fun k => (l).length - k.1) ⟨0, by omega, by simp⟩ [] (by constructor <;> simp) ?_
  rintro ⟨k, hk1, hi⟩ B hB
  refine CW.run 9999 400 rfl ?_
  simp [Tryz.ntmps168, Tryz.results168]
  refine run_br_split (fun h => ?_) (fun h => ?_)
  · have hk : k < (l).length := by simpa using h
    have hr : (l)[k]? = some (l)[k] := List.getElem?_eq_getElem hk
    have hm : (l)[k] ∈ (l) := List.getElem_mem hk
    have ht : (l).take (k + 1) = (l).take k ++ [(l)[k]] := by rw [List.take_add_one, hr]; rfl
    have hd : (l).drop k = (l)[k] :: (l).drop (k + 1) := List.drop_eq_getElem_cons hk
    have hw : IntKind.wrap .i64 ((k : Int) + 1) = k + 1 := wrap_i64 (by omega) (by omega)
    obtain ⟨r, hx⟩ : ∃ x0, (l)[k] = x0 := ⟨_, rfl⟩
    rw [hx] at hr hm ht hd
    simp only [h]
    simp [hr, hw, Tryz.ntmps168, Tryz.results168]
    rw [key_eq]
    refine ⟨by decide +kernel, ?_⟩
    refine run_br_split (fun h1 => ?_) (fun h1 => ?_) <;> simp only [h1] <;> simp [hr, Tryz.ntmps168, Tryz.results168] <;> (try simp only [Bool.not_eq_true', Bool.not_eq_false', decide_eq_true_eq, decide_eq_false_iff_not] at h1)
    · have e := idxF_at hi hr (by simpa using h1)
      first | (exact fin0 (by simp [e]) rfl) | (refine ⟨by decide +kernel, ?_⟩; exact fin0 (by simp [e]) rfl)
    · refine hB _ ⟨k + 1, by omega, by simp [ht, hi, h1]⟩ [] ?_ (by simp; omega)
      constructor <;> simp [hw, ht, h1]
  · have hkl : k = (l).length := by simp at h; omega
    subst hkl
    simp only [h]
    simp [List.take_length, List.drop_length, Tryz.ntmps168, Tryz.results168]
    rw [List.take_length] at hi
    have e : idxF (fun x => decide (k_ = x)) l = -1 := idxF_none (fun x hx => by have := List.all_eq_true.1 hi x hx; simpa using this)
    first | (exact fin0 (by simp [e]) rfl) | (refine ⟨by decide +kernel, ?_⟩; exact fin0 (by simp [e]) rfl)
theorem hasK_p (l : List Key) (k_ : Key) (hl : l.length ≤ 9223372036854775807) : Ct Tryz.prog 95 [lst (l.map keyC), st (keyC k_)] [] [] (bool (decide (k_ ∈ l))) [] := by
  refine Ct.of_body Tryz.func95 rfl mixed (by rw [Tryz.ntmps95]; simp) (CW.run 9999 400 rfl ?_)
  simp [Tryz.ntmps95, Tryz.results95]
  refine CW.callP (idxK_p l k_ hl) Tryz.call168 rfl rfl rfl (by first | exact .inl rfl | exact .inr ⟨_, _, rfl, by simp⟩ | exact .inr ⟨_, _, rfl, by simp [*]⟩) rfl (by simp) rfl rfl (CW.runOps 9999 400 rfl ?_)
  simp [Tryz.ntmps95, Tryz.results95]
  rw [idxF_any]
  have e : (l.any fun x => decide (k_ = x)) = decide (k_ ∈ l) := by rw [Bool.eq_iff_iff]; simp
  first | (exact fin0 (by simp [e]) rfl) | (refine ⟨by decide +kernel, ?_⟩; exact fin0 (by simp [e]) rfl)
end Go.Proofs.YtbmnaehodmgibaaGreatDoor
end
