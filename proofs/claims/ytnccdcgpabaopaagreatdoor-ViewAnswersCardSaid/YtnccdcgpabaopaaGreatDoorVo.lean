/-
  LAYERS 3, 10, 14: the walks of the program's comparisons of frames, and of ViewOnce, ViewTurns, ViewAnswers: they answer true, whatever they are given.
-/
import Derived.Test.YtnccdcgpabaopaaGreatDoorWb
import Derived.Test.YtnccdcgpabaopaaGreatDoorVi
set_option linter.unusedSimpArgs false
set_option linter.unusedVariables false
section
namespace Go.Proofs.YtnccdcgpabaopaaGreatDoor
open Go.AI Go.G
set_option maxRecDepth 20000

theorem w_ne (a b : Weight) : (!decide (a.cluster = b.cluster) || !decide (a.w = b.w)) = !decide (a = b) := by
  obtain ⟨p, q⟩ := a; obtain ⟨u, v⟩ := b
  rw [Bool.eq_iff_iff]; simp [Weight.mk.injEq]
theorem mark_ne (a b : G.Mark) : (!decide (a.k.kind = b.k.kind) || (!decide (a.k.name = b.k.name) || !decide (a.ver = b.ver))) = !decide (a = b) := by
  rw [← mark_eq]; simp [Bool.not_and, Bool.or_assoc]

-- slices.Equal[[]int,int]
theorem eq_int (a b : List Int) (hl : a.length ≤ 9223372036854775807) : Ct Tryz.prog 119 [lst (a.map intC), lst (b.map intC)] [] [] (bool (decide (a = b))) [] := by
  refine Ct.of_body Tryz.func119 rfl mixed (by rw [Tryz.ntmps119]; simp) (CW.run 9999 400 rfl ?_)
  simp [Tryz.ntmps119, Tryz.results119]
  refine run_br_split (fun h1 => ?_) (fun h1 => ?_) <;> simp only [h1] <;> simp [Tryz.ntmps119, Tryz.results119] <;> (try simp only [Bool.not_eq_true', Bool.not_eq_false', decide_eq_true_eq, decide_eq_false_iff_not] at h1)
  · have e : ¬ a = b := fun e => h1 (by rw [e])
    first | (exact fin0 (by simp [e]) rfl) | (refine ⟨by decide +kernel, ?_⟩; exact fin0 (by simp [e]) rfl)
  have hab : a.length = b.length := by omega
  refine LoopW.inv mixed (Plain.retC _ _ _ _ _) rfl (ι := {k : Nat // k ≤ (a).length ∧ a.take k = b.take k}) (fun k => [(0, lst (a.map intC)), (1, lst (b.map intC)), (11, lst (a.map intC)), (12, int a.length), (13, int k.1)]) (fun k => []) 64 (fun k => (a).length - k.1) ⟨0, by omega, by simp⟩ [] (by constructor <;> simp) ?_
  rintro ⟨k, hk1, hi⟩ B hB
  refine CW.run 9999 400 rfl ?_
  simp [Tryz.ntmps119, Tryz.results119]
  refine run_br_split (fun h => ?_) (fun h => ?_)
  · have hk : k < (a).length := by simpa using h
    have hr : (a)[k]? = some (a)[k] := List.getElem?_eq_getElem hk
    have hm : (a)[k] ∈ (a) := List.getElem_mem hk
    have ht : (a).take (k + 1) = (a).take k ++ [(a)[k]] := by rw [List.take_add_one, hr]; rfl
    have hd : (a).drop k = (a)[k] :: (a).drop (k + 1) := List.drop_eq_getElem_cons hk
    have hw : IntKind.wrap .i64 ((k : Int) + 1) = k + 1 := wrap_i64 (by omega) (by omega)
    obtain ⟨x, hx⟩ : ∃ x0, (a)[k] = x0 := ⟨_, rfl⟩
    rw [hx] at hr hm ht hd
    simp only [h]
    simp [hr, hw, Tryz.ntmps119, Tryz.results119]
    have hrb : b[k]? = some b[k] := List.getElem?_eq_getElem (by omega)
    have htb : b.take (k + 1) = b.take k ++ [b[k]] := by rw [List.take_add_one, hrb]; rfl
    have hne : ¬ x = b[k] → ¬ a = b := by
      intro h2 e; subst e; rw [hr] at hrb; exact h2 (Option.some.inj hrb)
    generalize b[k] = y at hrb htb hne
    simp [hrb, Tryz.ntmps119, Tryz.results119]
    refine ⟨by decide +kernel, ?_⟩
    refine run_br_split (fun h2 => ?_) (fun h2 => ?_) <;> simp only [h2] <;> simp [hr, hrb, Tryz.ntmps119, Tryz.results119] <;> (try simp only [Bool.not_eq_true', Bool.not_eq_false', decide_eq_true_eq, decide_eq_false_iff_not] at h2)
    · have e := hne h2
      first | (exact fin0 (by simp [e]) rfl) | (refine ⟨by decide +kernel, ?_⟩; exact fin0 (by simp [e]) rfl)
    · refine hB _ ⟨k + 1, by omega, by rw [ht, htb, hi, h2]⟩ [] ?_ (by simp; omega)
      constructor <;> simp [hw]
  · have hkl : k = (a).length := by simp at h; omega
    subst hkl
    simp only [h]
    simp [List.take_length, List.drop_length, Tryz.ntmps119, Tryz.results119]
    have e : a = b := by
      rw [List.take_length, hab, List.take_length] at hi; exact hi
    first | (exact fin0 (by simp [e]) rfl) | (refine ⟨by decide +kernel, ?_⟩; exact fin0 (by simp [e]) rfl)

-- slices.Equal[[]groyne/api.Weight,groyne/api.Weight]
theorem eq_w (a b : List Weight) (hl : a.length ≤ 9223372036854775807) : Ct Tryz.prog 118 [lst (a.map wC), lst (b.map wC)] [] [] (bool (decide (a = b))) [] := by
  refine Ct.of_body Tryz.func118 rfl mixed (by rw [Tryz.ntmps118]; simp) (CW.run 9999 400 rfl ?_)
  simp [Tryz.ntmps118, Tryz.results118]
  refine run_br_split (fun h1 => ?_) (fun h1 => ?_) <;> simp only [h1] <;> simp [Tryz.ntmps118, Tryz.results118] <;> (try simp only [Bool.not_eq_true', Bool.not_eq_false', decide_eq_true_eq, decide_eq_false_iff_not] at h1)
  · have e : ¬ a = b := fun e => h1 (by rw [e])
    first | (exact fin0 (by simp [e]) rfl) | (refine ⟨by decide +kernel, ?_⟩; exact fin0 (by simp [e]) rfl)
  have hab : a.length = b.length := by omega
  refine LoopW.inv mixed (Plain.retC _ _ _ _ _) rfl (ι := {k : Nat // k ≤ (a).length ∧ a.take k = b.take k}) (fun k => [(0, lst (a.map wC)), (1, lst (b.map wC)), (11, lst (a.map wC)), (12, int a.length), (13, int k.1)]) (fun k => []) 64 (fun k => (a).length - k.1) ⟨0, by omega, by simp⟩ [] (by constructor <;> simp) ?_
  rintro ⟨k, hk1, hi⟩ B hB
  refine CW.run 9999 400 rfl ?_
  simp [Tryz.ntmps118, Tryz.results118]
  refine run_br_split (fun h => ?_) (fun h => ?_)
  · have hk : k < (a).length := by simpa using h
    have hr : (a)[k]? = some (a)[k] := List.getElem?_eq_getElem hk
    have hm : (a)[k] ∈ (a) := List.getElem_mem hk
    have ht : (a).take (k + 1) = (a).take k ++ [(a)[k]] := by rw [List.take_add_one, hr]; rfl
    have hd : (a).drop k = (a)[k] :: (a).drop (k + 1) := List.drop_eq_getElem_cons hk
    have hw : IntKind.wrap .i64 ((k : Int) + 1) = k + 1 := wrap_i64 (by omega) (by omega)
    obtain ⟨x, hx⟩ : ∃ x0, (a)[k] = x0 := ⟨_, rfl⟩
    rw [hx] at hr hm ht hd
    simp only [h]
    simp [hr, hw, Tryz.ntmps118, Tryz.results118]
    have hrb : b[k]? = some b[k] := List.getElem?_eq_getElem (by omega)
    have htb : b.take (k + 1) = b.take k ++ [b[k]] := by rw [List.take_add_one, hrb]; rfl
    have hne : ¬ x = b[k] → ¬ a = b := by
      intro h2 e; subst e; rw [hr] at hrb; exact h2 (Option.some.inj hrb)
    generalize b[k] = y at hrb htb hne
    simp [hrb, Tryz.ntmps118, Tryz.results118]
    rw [w_ne]
    refine ⟨by decide +kernel, ?_⟩
    refine run_br_split (fun h2 => ?_) (fun h2 => ?_) <;> simp only [h2] <;> simp [hr, hrb, Tryz.ntmps118, Tryz.results118] <;> (try simp only [Bool.not_eq_true', Bool.not_eq_false', decide_eq_true_eq, decide_eq_false_iff_not] at h2)
    · have e := hne h2
      first | (exact fin0 (by simp [e]) rfl) | (refine ⟨by decide +kernel, ?_⟩; exact fin0 (by simp [e]) rfl)
    · refine hB _ ⟨k + 1, by omega, by rw [ht, htb, hi, h2]⟩ [] ?_ (by simp; omega)
      constructor <;> simp [hw]
  · have hkl : k = (a).length := by simp at h; omega
    subst hkl
    simp only [h]
    simp [List.take_length, List.drop_length, Tryz.ntmps118, Tryz.results118]
    have e : a = b := by
      rw [List.take_length, hab, List.take_length] at hi; exact hi
    first | (exact fin0 (by simp [e]) rfl) | (refine ⟨by decide +kernel, ?_⟩; exact fin0 (by simp [e]) rfl)

-- slices.Equal[[]groyne/api.Key,groyne/api.Key]
theorem eq_key (a b : List Key) (hl : a.length ≤ 9223372036854775807) : Ct Tryz.prog 58 [lst (a.map keyC), lst (b.map keyC)] [] [] (bool (decide (a = b))) [] := by
  refine Ct.of_body Tryz.func58 rfl mixed (by rw [Tryz.ntmps58]; simp) (CW.run 9999 400 rfl ?_)
  simp [Tryz.ntmps58, Tryz.results58]
  refine run_br_split (fun h1 => ?_) (fun h1 => ?_) <;> simp only [h1] <;> simp [Tryz.ntmps58, Tryz.results58] <;> (try simp only [Bool.not_eq_true', Bool.not_eq_false', decide_eq_true_eq, decide_eq_false_iff_not] at h1)
  · have e : ¬ a = b := fun e => h1 (by rw [e])
    first | (exact fin0 (by simp [e]) rfl) | (refine ⟨by decide +kernel, ?_⟩; exact fin0 (by simp [e]) rfl)
  have hab : a.length = b.length := by omega
  refine LoopW.inv mixed (Plain.retC _ _ _ _ _) rfl (ι := {k : Nat // k ≤ (a).length ∧ a.take k = b.take k}) (fun k => [(0, lst (a.map keyC)), (1, lst (b.map keyC)), (11, lst (a.map keyC)), (12, int a.length), (13, int k.1)]) (fun k => []) 64 (fun k => (a).length - k.1) ⟨0, by omega, by simp⟩ [] (by constructor <;> simp) ?_
  rintro ⟨k, hk1, hi⟩ B hB
  refine CW.run 9999 400 rfl ?_
  simp [Tryz.ntmps58, Tryz.results58]
  refine run_br_split (fun h => ?_) (fun h => ?_)
  · have hk : k < (a).length := by simpa using h
    have hr : (a)[k]? = some (a)[k] := List.getElem?_eq_getElem hk
    have hm : (a)[k] ∈ (a) := List.getElem_mem hk
    have ht : (a).take (k + 1) = (a).take k ++ [(a)[k]] := by rw [List.take_add_one, hr]; rfl
    have hd : (a).drop k = (a)[k] :: (a).drop (k + 1) := List.drop_eq_getElem_cons hk
    have hw : IntKind.wrap .i64 ((k : Int) + 1) = k + 1 := wrap_i64 (by omega) (by omega)
    obtain ⟨x, hx⟩ : ∃ x0, (a)[k] = x0 := ⟨_, rfl⟩
    rw [hx] at hr hm ht hd
    simp only [h]
    simp [hr, hw, Tryz.ntmps58, Tryz.results58]
    have hrb : b[k]? = some b[k] := List.getElem?_eq_getElem (by omega)
    have htb : b.take (k + 1) = b.take k ++ [b[k]] := by rw [List.take_add_one, hrb]; rfl
    have hne : ¬ x = b[k] → ¬ a = b := by
      intro h2 e; subst e; rw [hr] at hrb; exact h2 (Option.some.inj hrb)
    generalize b[k] = y at hrb htb hne
    simp [hrb, Tryz.ntmps58, Tryz.results58]
    rw [key_ne]
    refine ⟨by decide +kernel, ?_⟩
    refine run_br_split (fun h2 => ?_) (fun h2 => ?_) <;> simp only [h2] <;> simp [hr, hrb, Tryz.ntmps58, Tryz.results58] <;> (try simp only [Bool.not_eq_true', Bool.not_eq_false', decide_eq_true_eq, decide_eq_false_iff_not] at h2)
    · have e := hne h2
      first | (exact fin0 (by simp [e]) rfl) | (refine ⟨by decide +kernel, ?_⟩; exact fin0 (by simp [e]) rfl)
    · refine hB _ ⟨k + 1, by omega, by rw [ht, htb, hi, h2]⟩ [] ?_ (by simp; omega)
      constructor <;> simp [hw]
  · have hkl : k = (a).length := by simp at h; omega
    subst hkl
    simp only [h]
    simp [List.take_length, List.drop_length, Tryz.ntmps58, Tryz.results58]
    have e : a = b := by
      rw [List.take_length, hab, List.take_length] at hi; exact hi
    first | (exact fin0 (by simp [e]) rfl) | (refine ⟨by decide +kernel, ?_⟩; exact fin0 (by simp [e]) rfl)

-- slices.Equal[[]groyne/frame.Mark,groyne/frame.Mark]
theorem eq_mark (a b : List G.Mark) (hl : a.length ≤ 9223372036854775807) : Ct Tryz.prog 59 [lst (a.map markC), lst (b.map markC)] [] [] (bool (decide (a = b))) [] := by
  refine Ct.of_body Tryz.func59 rfl mixed (by rw [Tryz.ntmps59]; simp) (CW.run 9999 400 rfl ?_)
  simp [Tryz.ntmps59, Tryz.results59]
  refine run_br_split (fun h1 => ?_) (fun h1 => ?_) <;> simp only [h1] <;> simp [Tryz.ntmps59, Tryz.results59] <;> (try simp only [Bool.not_eq_true', Bool.not_eq_false', decide_eq_true_eq, decide_eq_false_iff_not] at h1)
  · have e : ¬ a = b := fun e => h1 (by rw [e])
    first | (exact fin0 (by simp [e]) rfl) | (refine ⟨by decide +kernel, ?_⟩; exact fin0 (by simp [e]) rfl)
  have hab : a.length = b.length := by omega
  refine LoopW.inv mixed (Plain.retC _ _ _ _ _) rfl (ι := {k : Nat // k ≤ (a).length ∧ a.take k = b.take k}) (fun k => [(0, lst (a.map markC)), (1, lst (b.map markC)), (11, lst (a.map markC)), (12, int a.length), (13, int k.1)]) (fun k => []) 64 (fun k => (a).length - k.1) ⟨0, by omega, by simp⟩ [] (by constructor <;> simp) ?_
  rintro ⟨k, hk1, hi⟩ B hB
  refine CW.run 9999 400 rfl ?_
  simp [Tryz.ntmps59, Tryz.results59]
  refine run_br_split (fun h => ?_) (fun h => ?_)
  · have hk : k < (a).length := by simpa using h
    have hr : (a)[k]? = some (a)[k] := List.getElem?_eq_getElem hk
    have hm : (a)[k] ∈ (a) := List.getElem_mem hk
    have ht : (a).take (k + 1) = (a).take k ++ [(a)[k]] := by rw [List.take_add_one, hr]; rfl
    have hd : (a).drop k = (a)[k] :: (a).drop (k + 1) := List.drop_eq_getElem_cons hk
    have hw : IntKind.wrap .i64 ((k : Int) + 1) = k + 1 := wrap_i64 (by omega) (by omega)
    obtain ⟨x, hx⟩ : ∃ x0, (a)[k] = x0 := ⟨_, rfl⟩
    rw [hx] at hr hm ht hd
    simp only [h]
    simp [hr, hw, Tryz.ntmps59, Tryz.results59]
    have hrb : b[k]? = some b[k] := List.getElem?_eq_getElem (by omega)
    have htb : b.take (k + 1) = b.take k ++ [b[k]] := by rw [List.take_add_one, hrb]; rfl
    have hne : ¬ x = b[k] → ¬ a = b := by
      intro h2 e; subst e; rw [hr] at hrb; exact h2 (Option.some.inj hrb)
    generalize b[k] = y at hrb htb hne
    simp [hrb, Tryz.ntmps59, Tryz.results59]
    rw [mark_ne]
    refine ⟨by decide +kernel, ?_⟩
    refine run_br_split (fun h2 => ?_) (fun h2 => ?_) <;> simp only [h2] <;> simp [hr, hrb, Tryz.ntmps59, Tryz.results59] <;> (try simp only [Bool.not_eq_true', Bool.not_eq_false', decide_eq_true_eq, decide_eq_false_iff_not] at h2)
    · have e := hne h2
      first | (exact fin0 (by simp [e]) rfl) | (refine ⟨by decide +kernel, ?_⟩; exact fin0 (by simp [e]) rfl)
    · refine hB _ ⟨k + 1, by omega, by rw [ht, htb, hi, h2]⟩ [] ?_ (by simp; omega)
      constructor <;> simp [hw]
  · have hkl : k = (a).length := by simp at h; omega
    subst hkl
    simp only [h]
    simp [List.take_length, List.drop_length, Tryz.ntmps59, Tryz.results59]
    have e : a = b := by
      rw [List.take_length, hab, List.take_length] at hi; exact hi
    first | (exact fin0 (by simp [e]) rfl) | (refine ⟨by decide +kernel, ?_⟩; exact fin0 (by simp [e]) rfl)

-- slices.EqualFunc[[]groyne/api.Rule,[]groyne/api.Rule,groyne/api.Rule,groyne/api.Rule]
theorem eqf_rule (a b : List Rule) (kf : D) (hf : ∀ x ∈ a, ∀ y, FnOk Tryz.prog (.d kf) [st (ruleC x), st (ruleC y)] (bool (decide (x = y)))) (hl : a.length ≤ 9223372036854775807) : Ct Tryz.prog 120 [lst (a.map ruleC), lst (b.map ruleC), .d kf] [] [] (bool (decide (a = b))) [] := by
  refine Ct.of_body Tryz.func120 rfl mixed (by rw [Tryz.ntmps120]; simp) (CW.run 9999 400 rfl ?_)
  simp [Tryz.ntmps120, Tryz.results120]
  refine run_br_split (fun h1 => ?_) (fun h1 => ?_) <;> simp only [h1] <;> simp [Tryz.ntmps120, Tryz.results120] <;> (try simp only [Bool.not_eq_true', Bool.not_eq_false', decide_eq_true_eq, decide_eq_false_iff_not] at h1)
  · have e : ¬ a = b := fun e => h1 (by rw [e])
    first | (exact fin0 (by simp [e]) rfl) | (refine ⟨by decide +kernel, ?_⟩; exact fin0 (by simp [e]) rfl)
  have hab : a.length = b.length := by omega
  refine LoopW.inv mixed (Plain.retC _ _ _ _ _) rfl (ι := {k : Nat // k ≤ (a).length ∧ a.take k = b.take k}) (fun k => [(0, lst (a.map ruleC)), (1, lst (b.map ruleC)), (2, .d kf), (15, lst (a.map ruleC)), (16, int a.length), (17, int k.1)]) (fun k => []) 64 (fun k => (a).length - k.1) ⟨0, by omega, by simp⟩ [] (by constructor <;> simp) ?_
  rintro ⟨k, hk1, hi⟩ B hB
  refine CW.run 9999 400 rfl ?_
  simp [Tryz.ntmps120, Tryz.results120]
  refine run_br_split (fun h => ?_) (fun h => ?_)
  · have hk : k < (a).length := by simpa using h
    have hr : (a)[k]? = some (a)[k] := List.getElem?_eq_getElem hk
    have hm : (a)[k] ∈ (a) := List.getElem_mem hk
    have ht : (a).take (k + 1) = (a).take k ++ [(a)[k]] := by rw [List.take_add_one, hr]; rfl
    have hd : (a).drop k = (a)[k] :: (a).drop (k + 1) := List.drop_eq_getElem_cons hk
    have hw : IntKind.wrap .i64 ((k : Int) + 1) = k + 1 := wrap_i64 (by omega) (by omega)
    obtain ⟨x, hx⟩ : ∃ x0, (a)[k] = x0 := ⟨_, rfl⟩
    rw [hx] at hr hm ht hd
    simp only [h]
    simp [hr, hw, Tryz.ntmps120, Tryz.results120]
    have hrb : b[k]? = some b[k] := List.getElem?_eq_getElem (by omega)
    have htb : b.take (k + 1) = b.take k ++ [b[k]] := by rw [List.take_add_one, hrb]; rfl
    have hne : ¬ x = b[k] → ¬ a = b := by
      intro h2 e; subst e; rw [hr] at hrb; exact h2 (Option.some.inj hrb)
    generalize b[k] = y at hrb htb hne
    simp [hrb, Tryz.ntmps120, Tryz.results120]
    refine CW.callF (hf x hm y) rfl rfl rfl (by first | exact .inl rfl | exact .inr ⟨_, _, rfl, by simp⟩ | exact .inr ⟨_, _, rfl, by simp [*]⟩) rfl (by simp) (CW.runOps 9999 400 rfl ?_)
    simp [Tryz.ntmps120, Tryz.results120]
    refine run_br_split (fun h2 => ?_) (fun h2 => ?_) <;> simp only [h2] <;> simp [hr, hrb, Tryz.ntmps120, Tryz.results120] <;> (try simp only [Bool.not_eq_true', Bool.not_eq_false', decide_eq_true_eq, decide_eq_false_iff_not] at h2)
    · have e := hne h2
      first | (exact fin0 (by simp [e]) rfl) | (refine ⟨by decide +kernel, ?_⟩; exact fin0 (by simp [e]) rfl)
    · refine hB _ ⟨k + 1, by omega, by rw [ht, htb, hi, h2]⟩ [] ?_ (by simp; omega)
      constructor <;> simp [hw]
  · have hkl : k = (a).length := by simp at h; omega
    subst hkl
    simp only [h]
    simp [List.take_length, List.drop_length, Tryz.ntmps120, Tryz.results120]
    have e : a = b := by
      rw [List.take_length, hab, List.take_length] at hi; exact hi
    first | (exact fin0 (by simp [e]) rfl) | (refine ⟨by decide +kernel, ?_⟩; exact fin0 (by simp [e]) rfl)

-- slices.EqualFunc[[]groyne/api.Res,[]groyne/api.Res,groyne/api.Res,groyne/api.Res]
theorem eqf_res (a b : List Res) (kf : D) (hf : ∀ x ∈ a, ∀ y, FnOk Tryz.prog (.d kf) [st (resC x), st (resC y)] (bool (decide (x = y)))) (hl : a.length ≤ 9223372036854775807) : Ct Tryz.prog 56 [lst (a.map resC), lst (b.map resC), .d kf] [] [] (bool (decide (a = b))) [] := by
  refine Ct.of_body Tryz.func56 rfl mixed (by rw [Tryz.ntmps56]; simp) (CW.run 9999 400 rfl ?_)
  simp [Tryz.ntmps56, Tryz.results56]
  refine run_br_split (fun h1 => ?_) (fun h1 => ?_) <;> simp only [h1] <;> simp [Tryz.ntmps56, Tryz.results56] <;> (try simp only [Bool.not_eq_true', Bool.not_eq_false', decide_eq_true_eq, decide_eq_false_iff_not] at h1)
  · have e : ¬ a = b := fun e => h1 (by rw [e])
    first | (exact fin0 (by simp [e]) rfl) | (refine ⟨by decide +kernel, ?_⟩; exact fin0 (by simp [e]) rfl)
  have hab : a.length = b.length := by omega
  refine LoopW.inv mixed (Plain.retC _ _ _ _ _) rfl (ι := {k : Nat // k ≤ (a).length ∧ a.take k = b.take k}) (fun k => [(0, lst (a.map resC)), (1, lst (b.map resC)), (2, .d kf), (15, lst (a.map resC)), (16, int a.length), (17, int k.1)]) (fun k => []) 64 (fun k => (a).length - k.1) ⟨0, by omega, by simp⟩ [] (by constructor <;> simp) ?_
  rintro ⟨k, hk1, hi⟩ B hB
  refine CW.run 9999 400 rfl ?_
  simp [Tryz.ntmps56, Tryz.results56]
  refine run_br_split (fun h => ?_) (fun h => ?_)
  · have hk : k < (a).length := by simpa using h
    have hr : (a)[k]? = some (a)[k] := List.getElem?_eq_getElem hk
    have hm : (a)[k] ∈ (a) := List.getElem_mem hk
    have ht : (a).take (k + 1) = (a).take k ++ [(a)[k]] := by rw [List.take_add_one, hr]; rfl
    have hd : (a).drop k = (a)[k] :: (a).drop (k + 1) := List.drop_eq_getElem_cons hk
    have hw : IntKind.wrap .i64 ((k : Int) + 1) = k + 1 := wrap_i64 (by omega) (by omega)
    obtain ⟨x, hx⟩ : ∃ x0, (a)[k] = x0 := ⟨_, rfl⟩
    rw [hx] at hr hm ht hd
    simp only [h]
    simp [hr, hw, Tryz.ntmps56, Tryz.results56]
    have hrb : b[k]? = some b[k] := List.getElem?_eq_getElem (by omega)
    have htb : b.take (k + 1) = b.take k ++ [b[k]] := by rw [List.take_add_one, hrb]; rfl
    have hne : ¬ x = b[k] → ¬ a = b := by
      intro h2 e; subst e; rw [hr] at hrb; exact h2 (Option.some.inj hrb)
    generalize b[k] = y at hrb htb hne
    simp [hrb, Tryz.ntmps56, Tryz.results56]
    refine CW.callF (hf x hm y) rfl rfl rfl (by first | exact .inl rfl | exact .inr ⟨_, _, rfl, by simp⟩ | exact .inr ⟨_, _, rfl, by simp [*]⟩) rfl (by simp) (CW.runOps 9999 400 rfl ?_)
    simp [Tryz.ntmps56, Tryz.results56]
    refine run_br_split (fun h2 => ?_) (fun h2 => ?_) <;> simp only [h2] <;> simp [hr, hrb, Tryz.ntmps56, Tryz.results56] <;> (try simp only [Bool.not_eq_true', Bool.not_eq_false', decide_eq_true_eq, decide_eq_false_iff_not] at h2)
    · have e := hne h2
      first | (exact fin0 (by simp [e]) rfl) | (refine ⟨by decide +kernel, ?_⟩; exact fin0 (by simp [e]) rfl)
    · refine hB _ ⟨k + 1, by omega, by rw [ht, htb, hi, h2]⟩ [] ?_ (by simp; omega)
      constructor <;> simp [hw]
  · have hkl : k = (a).length := by simp at h; omega
    subst hkl
    simp only [h]
    simp [List.take_length, List.drop_length, Tryz.ntmps56, Tryz.results56]
    have e : a = b := by
      rw [List.take_length, hab, List.take_length] at hi; exact hi
    first | (exact fin0 (by simp [e]) rfl) | (refine ⟨by decide +kernel, ?_⟩; exact fin0 (by simp [e]) rfl)

theorem rule_ext {a b : Rule} (h1 : a.host = b.host) (h2 : a.pre = b.pre) : decide (a = b) = decide (a.split = b.split) := by
  obtain ⟨a1, a2, a3⟩ := a; obtain ⟨b1, b2, b3⟩ := b
  simp only at h1 h2; subst h1 h2
  rw [Bool.eq_iff_iff]; simp

-- groyne/res.Alike$1
theorem alike1 (x y : Rule) (hl : x.split.length ≤ 9223372036854775807) : Ct Tryz.prog 117 [st (ruleC x), st (ruleC y)] [] [] (bool (decide (x = y))) [] := by
  refine Ct.of_body Tryz.func117 rfl mixed (by rw [Tryz.ntmps117]; simp) (CW.run 9999 400 rfl ?_)
  simp [Tryz.ntmps117, Tryz.results117]
  refine run_gd_split (fun h1 => ?_) (fun h1 => ?_) <;> simp only [h1] <;> simp [Tryz.ntmps117, Tryz.results117] <;> (try simp only [Bool.not_eq_true', Bool.not_eq_false', decide_eq_true_eq, decide_eq_false_iff_not] at h1)
  · refine run_gd_split (fun h2 => ?_) (fun h2 => ?_) <;> simp only [h2] <;> simp [Tryz.ntmps117, Tryz.results117] <;> (try simp only [Bool.not_eq_true', Bool.not_eq_false', decide_eq_true_eq, decide_eq_false_iff_not] at h2)
    · refine CW.callP (eq_w x.split y.split hl) Tryz.call118 rfl rfl rfl (by first | exact .inl rfl | exact .inr ⟨_, _, rfl, by simp⟩ | exact .inr ⟨_, _, rfl, by simp [*]⟩) rfl (by simp) rfl rfl (CW.runOps 9999 400 rfl ?_)
      simp [Tryz.ntmps117, Tryz.results117]
      rw [rule_ext h1 h2]
      first | (exact fin0 (by simp) rfl) | (refine ⟨by decide +kernel, ?_⟩; exact fin0 (by simp) rfl)
    · have e : ¬ x = y := fun e => h2 (by rw [e])
      first | (exact fin0 (by simp [e]) rfl) | (refine ⟨by decide +kernel, ?_⟩; exact fin0 (by simp [e]) rfl)
  · have e : ¬ x = y := fun e => h1 (by rw [e])
    first | (exact fin0 (by simp [e]) rfl) | (refine ⟨by decide +kernel, ?_⟩; exact fin0 (by simp [e]) rfl)

-- groyne/res.Alike
theorem alike_p (a b : Res) (hl : OkRes a) : Ct Tryz.prog 89 [st (resC a), st (resC b)] [] [] (bool (alikeB a b)) [] := by
  refine Ct.of_body Tryz.func89 rfl mixed (by rw [Tryz.ntmps89]; simp) (CW.run 9999 400 rfl ?_)
  simp [Tryz.ntmps89, Tryz.results89]
  refine CW.callP (key_p a) Tryz.call29 rfl rfl rfl (by first | exact .inl rfl | exact .inr ⟨_, _, rfl, by simp⟩ | exact .inr ⟨_, _, rfl, by simp [*]⟩) rfl (by simp) rfl rfl (CW.runOps 9999 400 rfl ?_)
  simp [Tryz.ntmps89, Tryz.results89]
  refine CW.callP (key_p b) Tryz.call29 rfl rfl rfl (by first | exact .inl rfl | exact .inr ⟨_, _, rfl, by simp⟩ | exact .inr ⟨_, _, rfl, by simp [*]⟩) rfl (by simp) rfl rfl (CW.runOps 9999 400 rfl ?_)
  simp [Tryz.ntmps89, Tryz.results89]
  rw [key_eq]
  refine run_gd_split (fun h1 => ?_) (fun h1 => ?_) <;> simp only [h1] <;> simp [Tryz.ntmps89, Tryz.results89] <;> (try simp only [Bool.not_eq_true', Bool.not_eq_false', decide_eq_true_eq, decide_eq_false_iff_not] at h1)
  · have k1 : a.kind = b.kind := congrArg Key.kind h1
    have k2 : a.name = b.name := congrArg Key.name h1
    refine run_gd_split (fun h2 => ?_) (fun h2 => ?_) <;> simp only [h2] <;> simp [Tryz.ntmps89, Tryz.results89] <;> (try simp only [Bool.not_eq_true', Bool.not_eq_false', decide_eq_true_eq, decide_eq_false_iff_not] at h2)
    · refine run_gd_split (fun h3 => ?_) (fun h3 => ?_) <;> simp only [h3] <;> simp [Tryz.ntmps89, Tryz.results89] <;> (try simp only [Bool.not_eq_true', Bool.not_eq_false', decide_eq_true_eq, decide_eq_false_iff_not] at h3)
      · refine CW.callP (eq_int a.hosts b.hosts hl.hosts) Tryz.call119 rfl rfl rfl (by first | exact .inl rfl | exact .inr ⟨_, _, rfl, by simp⟩ | exact .inr ⟨_, _, rfl, by simp [*]⟩) rfl (by simp) rfl rfl (CW.runOps 9999 400 rfl ?_)
        simp [Tryz.ntmps89, Tryz.results89]
        refine run_gd_split (fun h4 => ?_) (fun h4 => ?_) <;> simp only [h4] <;> simp [Tryz.ntmps89, Tryz.results89] <;> (try simp only [Bool.not_eq_true', Bool.not_eq_false', decide_eq_true_eq, decide_eq_false_iff_not] at h4)
        · refine CW.callP (eqf_rule a.rules b.rules (fnD 117) (fun x hx y => FnOk.of (alike1 x y (hl.split x hx)) Tryz.call117 rfl rfl) hl.rules) Tryz.call120 rfl rfl rfl (by first | exact .inl rfl | exact .inr ⟨_, _, rfl, by simp⟩ | exact .inr ⟨_, _, rfl, by simp [*]⟩) rfl (by simp) rfl rfl (CW.runOps 9999 400 rfl ?_)
          simp [Tryz.ntmps89, Tryz.results89]
          refine ⟨by decide +kernel, ?_⟩
          first | (exact fin0 (by simp [alikeB, k1, k2, h2, h3, h4]) rfl) | (refine ⟨by decide +kernel, ?_⟩; exact fin0 (by simp [alikeB, k1, k2, h2, h3, h4]) rfl)
        · refine ⟨by decide +kernel, ?_⟩
          first | (exact fin0 (by simp [alikeB, h4]) rfl) | (refine ⟨by decide +kernel, ?_⟩; exact fin0 (by simp [alikeB, h4]) rfl)
      · refine ⟨by decide +kernel, ?_⟩
        first | (exact fin0 (by simp [alikeB, h3]) rfl) | (refine ⟨by decide +kernel, ?_⟩; exact fin0 (by simp [alikeB, h3]) rfl)
    · refine ⟨by decide +kernel, ?_⟩
      first | (exact fin0 (by simp [alikeB, h2]) rfl) | (refine ⟨by decide +kernel, ?_⟩; exact fin0 (by simp [alikeB, h2]) rfl)
  · have e : alikeB a b = false := by
      simp only [alikeB]
      have : (decide (a.kind = b.kind) && decide (a.name = b.name)) = false := by rw [show (decide (a.kind = b.kind) && decide (a.name = b.name)) = decide (a.key = b.key) from key_eq a.key b.key]; simpa using h1
      rw [this]; simp
    refine ⟨by decide +kernel, ?_⟩
    first | (exact fin0 (by simp [e]) rfl) | (refine ⟨by decide +kernel, ?_⟩; exact fin0 (by simp [e]) rfl)

-- groyne/res.Same
theorem same_p (a b : Res) (hl : OkRes a) : Ct Tryz.prog 57 [st (resC a), st (resC b)] [] [] (bool (decide (a = b))) [] := by
  refine Ct.of_body Tryz.func57 rfl mixed (by rw [Tryz.ntmps57]; simp) (CW.run 9999 400 rfl ?_)
  simp [Tryz.ntmps57, Tryz.results57]
  rw [← alike_same]
  refine run_gd_split (fun h1 => ?_) (fun h1 => ?_) <;> simp only [h1] <;> simp [Tryz.ntmps57, Tryz.results57] <;> (try simp only [Bool.not_eq_true', Bool.not_eq_false', decide_eq_true_eq, decide_eq_false_iff_not] at h1)
  · refine CW.callP (alike_p a b hl) Tryz.call89 rfl rfl rfl (by first | exact .inl rfl | exact .inr ⟨_, _, rfl, by simp⟩ | exact .inr ⟨_, _, rfl, by simp [*]⟩) rfl (by simp) rfl rfl (CW.runOps 9999 400 rfl ?_)
    simp [Tryz.ntmps57, Tryz.results57]
    first | (exact fin0 (by simp [h1]) rfl) | (refine ⟨by decide +kernel, ?_⟩; exact fin0 (by simp [h1]) rfl)
  · first | (exact fin0 (by simp [h1]) rfl) | (refine ⟨by decide +kernel, ?_⟩; exact fin0 (by simp [h1]) rfl)

theorem frame_ext2 {a b : G.Frame} (h1 : a.type = b.type) (h2 : a.epoch = b.epoch) (h3 : a.kind = b.kind) (h4 : a.nonce = b.nonce) (h5 : a.turn = b.turn) (h6 : a.err = b.err) : decide (a = b) = (decide (a.adds = b.adds) && (decide (a.gone = b.gone) && (decide (a.have_ = b.have_) && decide (a.held = b.held)))) := by
  obtain ⟨a1, a2, a3, a4, a5, a6, a7, a8, a9, a10⟩ := a
  obtain ⟨b1, b2, b3, b4, b5, b6, b7, b8, b9, b10⟩ := b
  simp only at h1 h2 h3 h4 h5 h6
  subst h1 h2 h3 h4 h5 h6
  rw [Bool.eq_iff_iff]; simp [and_assoc]

-- groyne/frame.Same
theorem sameF_p (a b : G.Frame) (hl : OkFrame a) : Ct Tryz.prog 31 [st (frameC a), st (frameC b)] [] [] (bool (decide (a = b))) [] := by
  refine Ct.of_body Tryz.func31 rfl mixed (by rw [Tryz.ntmps31]; simp) (CW.run 9999 400 rfl ?_)
  simp [Tryz.ntmps31, Tryz.results31]
  refine run_gd_split (fun h1 => ?_) (fun h1 => ?_) <;> simp only [h1] <;> simp [Tryz.ntmps31, Tryz.results31] <;> (try simp only [Bool.not_eq_true', Bool.not_eq_false', decide_eq_true_eq, decide_eq_false_iff_not] at h1)
  · refine run_gd_split (fun h2 => ?_) (fun h2 => ?_) <;> simp only [h2] <;> simp [Tryz.ntmps31, Tryz.results31] <;> (try simp only [Bool.not_eq_true', Bool.not_eq_false', decide_eq_true_eq, decide_eq_false_iff_not] at h2)
    · refine run_gd_split (fun h3 => ?_) (fun h3 => ?_) <;> simp only [h3] <;> simp [Tryz.ntmps31, Tryz.results31] <;> (try simp only [Bool.not_eq_true', Bool.not_eq_false', decide_eq_true_eq, decide_eq_false_iff_not] at h3)
      · refine run_gd_split (fun h4 => ?_) (fun h4 => ?_) <;> simp only [h4] <;> simp [Tryz.ntmps31, Tryz.results31] <;> (try simp only [Bool.not_eq_true', Bool.not_eq_false', decide_eq_true_eq, decide_eq_false_iff_not] at h4)
        · refine run_gd_split (fun h5 => ?_) (fun h5 => ?_) <;> simp only [h5] <;> simp [Tryz.ntmps31, Tryz.results31] <;> (try simp only [Bool.not_eq_true', Bool.not_eq_false', decide_eq_true_eq, decide_eq_false_iff_not] at h5)
          · refine run_gd_split (fun h6 => ?_) (fun h6 => ?_) <;> simp only [h6] <;> simp [Tryz.ntmps31, Tryz.results31] <;> (try simp only [Bool.not_eq_true', Bool.not_eq_false', decide_eq_true_eq, decide_eq_false_iff_not] at h6)
            · rw [frame_ext2 h1 h2 h3 h4 h5 h6]
              refine CW.callP (eqf_res a.adds b.adds (fnD 57) (fun x hx y => FnOk.of (same_p x y (hl.adds.all x hx)) Tryz.call57 rfl rfl) hl.adds.len) Tryz.call56 rfl rfl rfl (by first | exact .inl rfl | exact .inr ⟨_, _, rfl, by simp⟩ | exact .inr ⟨_, _, rfl, by simp [*]⟩) rfl (by simp) rfl rfl (CW.runOps 9999 400 rfl ?_)
              simp [Tryz.ntmps31, Tryz.results31]
              refine run_gd_split (fun h7 => ?_) (fun h7 => ?_) <;> simp only [h7] <;> simp [Tryz.ntmps31, Tryz.results31] <;> (try simp only [Bool.not_eq_true', Bool.not_eq_false', decide_eq_true_eq, decide_eq_false_iff_not] at h7)
              · refine CW.callP (eq_key a.gone b.gone hl.gone) Tryz.call58 rfl rfl rfl (by first | exact .inl rfl | exact .inr ⟨_, _, rfl, by simp⟩ | exact .inr ⟨_, _, rfl, by simp [*]⟩) rfl (by simp) rfl rfl (CW.runOps 9999 400 rfl ?_)
                simp [Tryz.ntmps31, Tryz.results31]
                refine run_gd_split (fun h8 => ?_) (fun h8 => ?_) <;> simp only [h8] <;> simp [Tryz.ntmps31, Tryz.results31] <;> (try simp only [Bool.not_eq_true', Bool.not_eq_false', decide_eq_true_eq, decide_eq_false_iff_not] at h8)
                · refine CW.callP (eq_mark a.have_ b.have_ hl.have_) Tryz.call59 rfl rfl rfl (by first | exact .inl rfl | exact .inr ⟨_, _, rfl, by simp⟩ | exact .inr ⟨_, _, rfl, by simp [*]⟩) rfl (by simp) rfl rfl (CW.runOps 9999 400 rfl ?_)
                  simp [Tryz.ntmps31, Tryz.results31]
                  refine run_gd_split (fun h9 => ?_) (fun h9 => ?_) <;> simp only [h9] <;> simp [Tryz.ntmps31, Tryz.results31] <;> (try simp only [Bool.not_eq_true', Bool.not_eq_false', decide_eq_true_eq, decide_eq_false_iff_not] at h9)
                  · refine CW.callP (eq_key a.held b.held hl.held) Tryz.call58 rfl rfl rfl (by first | exact .inl rfl | exact .inr ⟨_, _, rfl, by simp⟩ | exact .inr ⟨_, _, rfl, by simp [*]⟩) rfl (by simp) rfl rfl (CW.runOps 9999 400 rfl ?_)
                    simp [Tryz.ntmps31, Tryz.results31]
                    first | (exact fin0 (by simp [h7, h8, h9]) rfl) | (refine ⟨by decide +kernel, ?_⟩; exact fin0 (by simp [h7, h8, h9]) rfl)
                  · first | (exact fin0 (by simp [h9]) rfl) | (refine ⟨by decide +kernel, ?_⟩; exact fin0 (by simp [h9]) rfl)
                · first | (exact fin0 (by simp [h8]) rfl) | (refine ⟨by decide +kernel, ?_⟩; exact fin0 (by simp [h8]) rfl)
              · first | (exact fin0 (by simp [h7]) rfl) | (refine ⟨by decide +kernel, ?_⟩; exact fin0 (by simp [h7]) rfl)
            · have e : ¬ a = b := fun e => h6 (by rw [e])
              first | (exact fin0 (by simp [e]) rfl) | (refine ⟨by decide +kernel, ?_⟩; exact fin0 (by simp [e]) rfl)
          · have e : ¬ a = b := fun e => h5 (by rw [e])
            first | (exact fin0 (by simp [e]) rfl) | (refine ⟨by decide +kernel, ?_⟩; exact fin0 (by simp [e]) rfl)
        · have e : ¬ a = b := fun e => h4 (by rw [e])
          first | (exact fin0 (by simp [e]) rfl) | (refine ⟨by decide +kernel, ?_⟩; exact fin0 (by simp [e]) rfl)
      · have e : ¬ a = b := fun e => h3 (by rw [e])
        first | (exact fin0 (by simp [e]) rfl) | (refine ⟨by decide +kernel, ?_⟩; exact fin0 (by simp [e]) rfl)
    · have e : ¬ a = b := fun e => h2 (by rw [e])
      first | (exact fin0 (by simp [e]) rfl) | (refine ⟨by decide +kernel, ?_⟩; exact fin0 (by simp [e]) rfl)
  · have e : ¬ a = b := fun e => h1 (by rw [e])
    first | (exact fin0 (by simp [e]) rfl) | (refine ⟨by decide +kernel, ?_⟩; exact fin0 (by simp [e]) rfl)

end Go.Proofs.YtnccdcgpabaopaaGreatDoor
end
section
namespace Go.Proofs.YtnccdcgpabaopaaGreatDoor
open Go.AI Go.G
set_option maxRecDepth 20000

-- groyne/groynelaw14.ViewOnce
theorem viewOnce_w (v : View) (f g : G.Frame) (hv : OkView v) (hf : OkFrame f) (hg : OkFrame g) : Ct Tryz.prog 5 [st (viewC v), st (frameC f), st (frameC g)] [] [] (bool true) [] := by
  refine Ct.of_body Tryz.func5 rfl mixed (by rw [Tryz.ntmps5]; simp) (CW.run 9999 400 rfl ?_)
  simp [Tryz.ntmps5, Tryz.results5]
  refine CW.callP (awake_l ) Tryz.call10 rfl rfl rfl (by first | exact .inl rfl | exact .inr ⟨_, _, rfl, by simp⟩ | exact .inr ⟨_, _, rfl, by simp [*]⟩) rfl (by simp) rfl rfl (CW.runOps 9999 400 rfl ?_)
  simp [Tryz.ntmps5, Tryz.results5]
  refine CW.callP (fewV_r v hv) Tryz.call11 rfl rfl rfl (by first | exact .inl rfl | exact .inr ⟨_, _, rfl, by simp⟩ | exact .inr ⟨_, _, rfl, by simp [*]⟩) rfl (by simp) rfl rfl (CW.runOps 9999 400 rfl ?_)
  simp [Tryz.ntmps5, Tryz.results5]
  refine run_gd_split (fun h1 => ?_) (fun h1 => ?_) <;> simp only [h1] <;> simp [Tryz.ntmps5, Tryz.results5] <;> (try simp only [Bool.not_eq_true', Bool.not_eq_false', decide_eq_true_eq, decide_eq_false_iff_not] at h1)
  · first | (exact fin0 (by simp) rfl) | (refine ⟨by decide +kernel, ?_⟩; exact fin0 (by simp) rfl)
  refine CW.callP (fewF_r f hf) Tryz.call12 rfl rfl rfl (by first | exact .inl rfl | exact .inr ⟨_, _, rfl, by simp⟩ | exact .inr ⟨_, _, rfl, by simp [*]⟩) rfl (by simp) rfl rfl (CW.runOps 9999 400 rfl ?_)
  simp [Tryz.ntmps5, Tryz.results5]
  refine run_gd_split (fun h2 => ?_) (fun h2 => ?_) <;> simp only [h2] <;> simp [Tryz.ntmps5, Tryz.results5] <;> (try simp only [Bool.not_eq_true', Bool.not_eq_false', decide_eq_true_eq, decide_eq_false_iff_not] at h2)
  · first | (exact fin0 (by simp) rfl) | (refine ⟨by decide +kernel, ?_⟩; exact fin0 (by simp) rfl)
  refine CW.callP (fewF_r g hg) Tryz.call12 rfl rfl rfl (by first | exact .inl rfl | exact .inr ⟨_, _, rfl, by simp⟩ | exact .inr ⟨_, _, rfl, by simp [*]⟩) rfl (by simp) rfl rfl (CW.runOps 9999 400 rfl ?_)
  simp [Tryz.ntmps5, Tryz.results5]
  refine run_br_split (fun h3 => ?_) (fun h3 => ?_) <;> simp only [h3] <;> simp [Tryz.ntmps5, Tryz.results5] <;> (try simp only [Bool.not_eq_true', Bool.not_eq_false', decide_eq_true_eq, decide_eq_false_iff_not] at h3)
  · first | (exact fin0 (by simp) rfl) | (refine ⟨by decide +kernel, ?_⟩; exact fin0 (by simp) rfl)
  have b1 := fewV_b h1
  have b2 := fewF_b h2
  have b3 := fewF_b h3
  have c1 := b1.push.have_
  have c2 := b1.have_
  have c3 := b1.push.adds
  have c4 := b1.push.gone
  have c5 := b2.have_
  have c6 := b3.have_
  have a0 := ans_b f b1
  have a1 := a0.have_
  have a2 := a0.adds
  have a3 := a0.gone
  have a4 := a0.marks
  have ok := ok_ans hv hf (by omega)
  refine CW.callP (view1_l v (by omega)) Tryz.call14 rfl rfl rfl (by first | exact .inl rfl | exact .inr ⟨_, _, rfl, by simp⟩ | exact .inr ⟨_, _, rfl, by simp [*]⟩) rfl (by simp) rfl rfl (CW.runOps 9999 400 rfl ?_)
  simp [Tryz.ntmps5, Tryz.results5]
  refine CW.callP (frame1_l f (by omega)) Tryz.call15 rfl rfl rfl (by first | exact .inl rfl | exact .inr ⟨_, _, rfl, by simp⟩ | exact .inr ⟨_, _, rfl, by simp [*]⟩) rfl (by simp) rfl rfl (CW.runOps 9999 400 rfl ?_)
  simp [Tryz.ntmps5, Tryz.results5]
  refine CW.callP (answered_p v f (by omega) (by omega)) Tryz.call13 rfl rfl rfl (by first | exact .inl rfl | exact .inr ⟨_, _, rfl, by simp⟩ | exact .inr ⟨_, _, rfl, by simp [*]⟩) rfl (by simp) rfl rfl (CW.runOps 9999 400 rfl ?_)
  simp [Tryz.ntmps5, Tryz.results5]
  refine ⟨by decide +kernel, ?_⟩
  refine run_br_split (fun h4 => ?_) (fun h4 => ?_) <;> simp only [h4] <;> simp [Tryz.ntmps5, Tryz.results5]
  · first | (exact fin0 (by simp) rfl) | (refine ⟨by decide +kernel, ?_⟩; exact fin0 (by simp) rfl)
  refine CW.callP (frame1_l f (by omega)) Tryz.call15 rfl rfl rfl (by first | exact .inl rfl | exact .inr ⟨_, _, rfl, by simp⟩ | exact .inr ⟨_, _, rfl, by simp [*]⟩) rfl (by simp [h4]) rfl rfl (CW.runOps 9999 400 rfl ?_)
  simp [h4, Tryz.ntmps5, Tryz.results5]
  refine CW.callP (answered_p (ansV v f) f (by omega) (by omega)) Tryz.call13 rfl rfl rfl (by first | exact .inl rfl | exact .inr ⟨_, _, rfl, by simp⟩ | exact .inr ⟨_, _, rfl, by simp [*]⟩) rfl (by simp [ansV_closed h4, ansE_closed h4, h4]) rfl rfl (CW.runOps 9999 400 rfl ?_)
  simp [ansV_closed h4, ansE_closed h4, h4, Tryz.ntmps5, Tryz.results5]
  refine ⟨by decide +kernel, ?_⟩
  refine CW.callP (frame1_l g (by omega)) Tryz.call15 rfl rfl rfl (by first | exact .inl rfl | exact .inr ⟨_, _, rfl, by simp⟩ | exact .inr ⟨_, _, rfl, by simp [*]⟩) rfl (by simp) rfl rfl (CW.runOps 9999 400 rfl ?_)
  simp [Tryz.ntmps5, Tryz.results5]
  refine CW.callP (answered_p (ansV v f) g (by omega) (by omega)) Tryz.call13 rfl rfl rfl (by first | exact .inl rfl | exact .inr ⟨_, _, rfl, by simp⟩ | exact .inr ⟨_, _, rfl, by simp [*]⟩) rfl (by simp [ansV_closed h4, ansE_closed h4, h4]) rfl rfl (CW.runOps 9999 400 rfl ?_)
  simp [ansV_closed h4, ansE_closed h4, h4, Tryz.ntmps5, Tryz.results5]
  refine ⟨by decide +kernel, ?_⟩
  refine CW.callP (seen_l (ansV v f) (by omega)) Tryz.call18 rfl rfl rfl (by first | exact .inl rfl | exact .inr ⟨_, _, rfl, by simp⟩ | exact .inr ⟨_, _, rfl, by simp [*]⟩) rfl (by simp [h4]) rfl rfl (CW.runOps 9999 400 rfl ?_)
  simp [h4, Tryz.ntmps5, Tryz.results5]
  refine CW.callP (seen_l (ansV v f) (by omega)) Tryz.call18 rfl rfl rfl (by first | exact .inl rfl | exact .inr ⟨_, _, rfl, by simp⟩ | exact .inr ⟨_, _, rfl, by simp [*]⟩) rfl (by simp [h4]) rfl rfl (CW.runOps 9999 400 rfl ?_)
  simp [h4, Tryz.ntmps5, Tryz.results5]
  refine CW.callP (sameV_r (ansV v f) (ansV v f) ok) Tryz.call17 rfl rfl rfl (by first | exact .inl rfl | exact .inr ⟨_, _, rfl, by simp⟩ | exact .inr ⟨_, _, rfl, by simp [*]⟩) rfl (by simp [h4]) rfl rfl (CW.runOps 9999 400 rfl ?_)
  simp [h4, Tryz.ntmps5, Tryz.results5]
  refine CW.callP (seen_l (ansV v f) (by omega)) Tryz.call18 rfl rfl rfl (by first | exact .inl rfl | exact .inr ⟨_, _, rfl, by simp⟩ | exact .inr ⟨_, _, rfl, by simp [*]⟩) rfl (by simp [h4]) rfl rfl (CW.runOps 9999 400 rfl ?_)
  simp [h4, Tryz.ntmps5, Tryz.results5]
  refine CW.callP (seen_l (ansV v f) (by omega)) Tryz.call18 rfl rfl rfl (by first | exact .inl rfl | exact .inr ⟨_, _, rfl, by simp⟩ | exact .inr ⟨_, _, rfl, by simp [*]⟩) rfl (by simp [h4]) rfl rfl (CW.runOps 9999 400 rfl ?_)
  simp [h4, Tryz.ntmps5, Tryz.results5]
  refine CW.callP (sameV_r (ansV v f) (ansV v f) ok) Tryz.call17 rfl rfl rfl (by first | exact .inl rfl | exact .inr ⟨_, _, rfl, by simp⟩ | exact .inr ⟨_, _, rfl, by simp [*]⟩) rfl (by simp [h4]) rfl rfl (CW.runOps 9999 400 rfl ?_)
  simp [h4, Tryz.ntmps5, Tryz.results5]
  refine ⟨by decide +kernel, ?_⟩
  first | (exact fin0 (by simp) rfl) | (refine ⟨by decide +kernel, ?_⟩; exact fin0 (by simp) rfl)

-- groyne/groynelaw14.ViewTurns
theorem viewTurns_w (v : View) (a b : Int) (x y : List Key) (hv : OkView v) (hx : x.length ≤ 9223372036854775807 ∧ ∀ k ∈ x, nB k.name) (hy : y.length ≤ 9223372036854775807 ∧ ∀ k ∈ y, nB k.name) : Ct Tryz.prog 6 [st (viewC v), int a, int b, lst (x.map keyC), lst (y.map keyC)] [] [] (bool true) [] := by
  refine Ct.of_body Tryz.func6 rfl mixed (by rw [Tryz.ntmps6]; simp) (CW.run 9999 400 rfl ?_)
  simp [Tryz.ntmps6, Tryz.results6]
  refine CW.callP (awake_l ) Tryz.call10 rfl rfl rfl (by first | exact .inl rfl | exact .inr ⟨_, _, rfl, by simp⟩ | exact .inr ⟨_, _, rfl, by simp [*]⟩) rfl (by simp) rfl rfl (CW.runOps 9999 400 rfl ?_)
  simp [Tryz.ntmps6, Tryz.results6]
  refine CW.callP (fewV_r v hv) Tryz.call11 rfl rfl rfl (by first | exact .inl rfl | exact .inr ⟨_, _, rfl, by simp⟩ | exact .inr ⟨_, _, rfl, by simp [*]⟩) rfl (by simp) rfl rfl (CW.runOps 9999 400 rfl ?_)
  simp [Tryz.ntmps6, Tryz.results6]
  refine run_gd_split (fun h1 => ?_) (fun h1 => ?_) <;> simp only [h1] <;> simp [Tryz.ntmps6, Tryz.results6] <;> (try simp only [Bool.not_eq_true', Bool.not_eq_false', decide_eq_true_eq, decide_eq_false_iff_not] at h1)
  · first | (exact fin0 (by simp) rfl) | (refine ⟨by decide +kernel, ?_⟩; exact fin0 (by simp) rfl)
  refine run_gd_split (fun h2 => ?_) (fun h2 => ?_) <;> simp only [h2] <;> simp [Tryz.ntmps6, Tryz.results6] <;> (try simp only [Bool.not_eq_true', Bool.not_eq_false', decide_eq_true_eq, decide_eq_false_iff_not] at h2)
  · first | (exact fin0 (by simp) rfl) | (refine ⟨by decide +kernel, ?_⟩; exact fin0 (by simp) rfl)
  refine run_gd_split (fun h3 => ?_) (fun h3 => ?_) <;> simp only [h3] <;> simp [Tryz.ntmps6, Tryz.results6] <;> (try simp only [Bool.not_eq_true', Bool.not_eq_false', decide_eq_true_eq, decide_eq_false_iff_not] at h3)
  · first | (exact fin0 (by simp) rfl) | (refine ⟨by decide +kernel, ?_⟩; exact fin0 (by simp) rfl)
  refine run_br_split (fun h4 => ?_) (fun h4 => ?_) <;> simp only [h4] <;> simp [Tryz.ntmps6, Tryz.results6] <;> (try simp only [Bool.not_eq_true', Bool.not_eq_false', decide_eq_true_eq, decide_eq_false_iff_not] at h4)
  · first | (exact fin0 (by simp) rfl) | (refine ⟨by decide +kernel, ?_⟩; exact fin0 (by simp) rfl)
  have b1 := fewV_b h1
  have c1 := b1.push.have_
  have okp : OkView (drainV (drainV v a x) b y) := ok_drain (ok_drain hv hx.1) hy.1
  have hc := drain_comm (v := v) (x := x) (y := y) h4
  have ht := drain_turn2 v a b x y
  refine CW.callP (view1_l v (by omega)) Tryz.call14 rfl rfl rfl (by first | exact .inl rfl | exact .inr ⟨_, _, rfl, by simp⟩ | exact .inr ⟨_, _, rfl, by simp [*]⟩) rfl (by simp) rfl rfl (CW.runOps 9999 400 rfl ?_)
  simp [Tryz.ntmps6, Tryz.results6]
  refine CW.callP (drain_p v a x) Tryz.call21 rfl rfl rfl (by first | exact .inl rfl | exact .inr ⟨_, _, rfl, by simp⟩ | exact .inr ⟨_, _, rfl, by simp [*]⟩) rfl (by simp) rfl rfl (CW.runOps 9999 400 rfl ?_)
  simp [Tryz.ntmps6, Tryz.results6]
  refine CW.callP (drain_p (drainV v a x) b y) Tryz.call21 rfl rfl rfl (by first | exact .inl rfl | exact .inr ⟨_, _, rfl, by simp⟩ | exact .inr ⟨_, _, rfl, by simp [*]⟩) rfl (by simp) rfl rfl (CW.runOps 9999 400 rfl ?_)
  simp [Tryz.ntmps6, Tryz.results6]
  refine CW.callP (drain_p v b y) Tryz.call21 rfl rfl rfl (by first | exact .inl rfl | exact .inr ⟨_, _, rfl, by simp⟩ | exact .inr ⟨_, _, rfl, by simp [*]⟩) rfl (by simp) rfl rfl (CW.runOps 9999 400 rfl ?_)
  simp [Tryz.ntmps6, Tryz.results6]
  refine CW.callP (drain_p (drainV v b y) a x) Tryz.call21 rfl rfl rfl (by first | exact .inl rfl | exact .inr ⟨_, _, rfl, by simp⟩ | exact .inr ⟨_, _, rfl, by simp [*]⟩) rfl (by simp) rfl rfl (CW.runOps 9999 400 rfl ?_)
  simp [Tryz.ntmps6, Tryz.results6]
  refine CW.callP (seen_l (drainV (drainV v a x) b y) (by simp; omega)) Tryz.call18 rfl rfl rfl (by first | exact .inl rfl | exact .inr ⟨_, _, rfl, by simp⟩ | exact .inr ⟨_, _, rfl, by simp [*]⟩) rfl (by simp) rfl rfl (CW.runOps 9999 400 rfl ?_)
  simp [Tryz.ntmps6, Tryz.results6]
  refine CW.callP (seen_l (drainV (drainV v b y) a x) (by simp; omega)) Tryz.call18 rfl rfl rfl (by first | exact .inl rfl | exact .inr ⟨_, _, rfl, by simp⟩ | exact .inr ⟨_, _, rfl, by simp [*]⟩) rfl (by simp) rfl rfl (CW.runOps 9999 400 rfl ?_)
  simp [Tryz.ntmps6, Tryz.results6]
  refine CW.callP (sameV_r (drainV (drainV v a x) b y) (drainV (drainV v b y) a x) okp) Tryz.call17 rfl rfl rfl (by first | exact .inl rfl | exact .inr ⟨_, _, rfl, by simp⟩ | exact .inr ⟨_, _, rfl, by simp [*]⟩) rfl (by simp [hc]) rfl rfl (CW.runOps 9999 400 rfl ?_)
  simp [hc, Tryz.ntmps6, Tryz.results6]
  generalize hL : (if v.turn < if a < b then b else a then if a < b then b else a else v.turn) = L
  have hM : max v.turn (max a b) = L := by rw [← hL]; omega
  rw [hc, hM] at ht
  have okq : OkView (drainV (drainV v b y) a x) := ok_drain (ok_drain hv hy.1) hx.1
  simp [ht, Tryz.ntmps6, Tryz.results6]
  refine run_gd_split (fun h5 => ?_) (fun h5 => ?_) <;> simp only [h5] <;> simp [Tryz.ntmps6, Tryz.results6] <;> (try simp only [Bool.not_eq_true', Bool.not_eq_false', decide_eq_true_eq, decide_eq_false_iff_not] at h5)
  · refine CW.callP (sameF_p v.push v.push hv.push) Tryz.call31 rfl rfl rfl (by first | exact .inl rfl | exact .inr ⟨_, _, rfl, by simp⟩ | exact .inr ⟨_, _, rfl, by simp [*]⟩) rfl (by simp) rfl rfl (CW.runOps 9999 400 rfl ?_)
    simp [Tryz.ntmps6, Tryz.results6]
    refine ⟨by decide +kernel, ?_⟩
    first | (exact fin0 (by simp) rfl) | (refine ⟨by decide +kernel, ?_⟩; exact fin0 (by simp) rfl)
  · have hq : drainV (drainV v b y) a x = v := by rw [← hc]; exact drain_none (by rw [hM, h5])
    refine CW.callP (seen_l (drainV (drainV v b y) a x) (by simp; omega)) Tryz.call18 rfl rfl rfl (by first | exact .inl rfl | exact .inr ⟨_, _, rfl, by simp⟩ | exact .inr ⟨_, _, rfl, by simp [*]⟩) rfl (by simp [hc, ht]) rfl rfl (CW.runOps 9999 400 rfl ?_)
    simp [hc, ht, Tryz.ntmps6, Tryz.results6]
    refine CW.callP (sameV_r (drainV (drainV v b y) a x) v okq) Tryz.call17 rfl rfl rfl (by first | exact .inl rfl | exact .inr ⟨_, _, rfl, by simp⟩ | exact .inr ⟨_, _, rfl, by simp [*]⟩) rfl (by simp [hq, h5]) rfl rfl (CW.runOps 9999 400 rfl ?_)
    simp [hq, h5, Tryz.ntmps6, Tryz.results6]
    refine CW.callP (sameF_p v.push v.push hv.push) Tryz.call31 rfl rfl rfl (by first | exact .inl rfl | exact .inr ⟨_, _, rfl, by simp⟩ | exact .inr ⟨_, _, rfl, by simp [*]⟩) rfl (by simp) rfl rfl (CW.runOps 9999 400 rfl ?_)
    simp [Tryz.ntmps6, Tryz.results6]
    refine ⟨by decide +kernel, ?_⟩
    first | (exact fin0 (by simp) rfl) | (refine ⟨by decide +kernel, ?_⟩; exact fin0 (by simp) rfl)

end Go.Proofs.YtnccdcgpabaopaaGreatDoor
end
section
namespace Go.Proofs.YtnccdcgpabaopaaGreatDoor
open Go.AI Go.G
set_option maxRecDepth 20000
set_option maxHeartbeats 1000000

-- groyne/groynelaw14.ViewAnswers
theorem viewAnswers_w (hv : List Res) (p f : G.Frame) (hh : OkRs hv) (hp : OkFrame p) (hf : OkFrame f) : Ct Tryz.prog 4 [lst (hv.map resC), st (frameC p), st (frameC f)] [] [] (bool true) [] := by
  refine Ct.of_body Tryz.func4 rfl mixed (by rw [Tryz.ntmps4]; simp) (CW.run 9999 400 rfl ?_)
  simp [Tryz.ntmps4, Tryz.results4]
  refine CW.callP (awake_l ) Tryz.call10 rfl rfl rfl (by first | exact .inl rfl | exact .inr ⟨_, _, rfl, by simp⟩ | exact .inr ⟨_, _, rfl, by simp [*]⟩) rfl (by simp) rfl rfl (CW.runOps 9999 400 rfl ?_)
  simp [Tryz.ntmps4, Tryz.results4]
  refine CW.callP (few_r hv hh) Tryz.call25 rfl rfl rfl (by first | exact .inl rfl | exact .inr ⟨_, _, rfl, by simp⟩ | exact .inr ⟨_, _, rfl, by simp [*]⟩) rfl (by simp) rfl rfl (CW.runOps 9999 400 rfl ?_)
  simp [Tryz.ntmps4, Tryz.results4]
  refine run_gd_split (fun h1 => ?_) (fun h1 => ?_) <;> simp only [h1] <;> simp [Tryz.ntmps4, Tryz.results4] <;> (try simp only [Bool.not_eq_true', Bool.not_eq_false', decide_eq_true_eq, decide_eq_false_iff_not] at h1)
  · first | (exact fin0 (by simp) rfl) | (refine ⟨by decide +kernel, ?_⟩; exact fin0 (by simp) rfl)
  refine CW.callP (fewF_r p hp) Tryz.call12 rfl rfl rfl (by first | exact .inl rfl | exact .inr ⟨_, _, rfl, by simp⟩ | exact .inr ⟨_, _, rfl, by simp [*]⟩) rfl (by simp) rfl rfl (CW.runOps 9999 400 rfl ?_)
  simp [Tryz.ntmps4, Tryz.results4]
  refine run_gd_split (fun h2 => ?_) (fun h2 => ?_) <;> simp only [h2] <;> simp [Tryz.ntmps4, Tryz.results4] <;> (try simp only [Bool.not_eq_true', Bool.not_eq_false', decide_eq_true_eq, decide_eq_false_iff_not] at h2)
  · first | (exact fin0 (by simp) rfl) | (refine ⟨by decide +kernel, ?_⟩; exact fin0 (by simp) rfl)
  refine CW.callP (fewF_r f hf) Tryz.call12 rfl rfl rfl (by first | exact .inl rfl | exact .inr ⟨_, _, rfl, by simp⟩ | exact .inr ⟨_, _, rfl, by simp [*]⟩) rfl (by simp) rfl rfl (CW.runOps 9999 400 rfl ?_)
  simp [Tryz.ntmps4, Tryz.results4]
  refine run_br_split (fun h3 => ?_) (fun h3 => ?_) <;> simp only [h3] <;> simp [Tryz.ntmps4, Tryz.results4] <;> (try simp only [Bool.not_eq_true', Bool.not_eq_false', decide_eq_true_eq, decide_eq_false_iff_not] at h3)
  · first | (exact fin0 (by simp) rfl) | (refine ⟨by decide +kernel, ?_⟩; exact fin0 (by simp) rfl)
  have b1 := fewL_len h1
  have b2 := fewF_b h2
  have b3 := fewF_b h3
  have c2 := b2.adds
  have c3 := b2.gone
  have c4 := b2.have_
  have c5 := b3.have_
  have c6 := b3.held
  have okV : OkView ⟨hv, [], 0, p, true⟩ := ⟨hh, by simp, hp⟩
  refine CW.callP (frame1_l p (by omega)) Tryz.call15 rfl rfl rfl (by first | exact .inl rfl | exact .inr ⟨_, _, rfl, by simp⟩ | exact .inr ⟨_, _, rfl, by simp [*]⟩) rfl (by simp) rfl rfl (CW.runOps 9999 400 rfl ?_)
  simp [Tryz.ntmps4, Tryz.results4]
  refine CW.callP (sent_p ⟨hv, [], 0, zFrame, false⟩ p) Tryz.call19 rfl rfl rfl (by first | exact .inl rfl | exact .inr ⟨_, _, rfl, by simp⟩ | exact .inr ⟨_, _, rfl, by simp [*]⟩) rfl (by simp [zFrame, sentV]) rfl rfl (CW.runOps 9999 400 rfl ?_)
  simp [zFrame, sentV, Tryz.ntmps4, Tryz.results4]
  refine CW.callP (frame1_l f (by omega)) Tryz.call15 rfl rfl rfl (by first | exact .inl rfl | exact .inr ⟨_, _, rfl, by simp⟩ | exact .inr ⟨_, _, rfl, by simp [*]⟩) rfl (by simp) rfl rfl (CW.runOps 9999 400 rfl ?_)
  simp [Tryz.ntmps4, Tryz.results4]
  refine CW.callP (answered_p ⟨hv, [], 0, p, true⟩ f (by simp only; omega) (by simp only; omega)) Tryz.call13 rfl rfl rfl (by first | exact .inl rfl | exact .inr ⟨_, _, rfl, by simp⟩ | exact .inr ⟨_, _, rfl, by simp [*]⟩) rfl (by simp) rfl rfl (CW.runOps 9999 400 rfl ?_)
  simp [Tryz.ntmps4, Tryz.results4]
  refine ⟨by decide +kernel, ?_⟩
  cases hfit : fitF ⟨hv, [], 0, p, true⟩ f with
  | false =>
    have e1 := ansV_stale hfit
    have e2 := ansE_stale (v := ⟨hv, [], 0, p, true⟩) rfl hfit
    simp [e1, e2, Tryz.ntmps4, Tryz.results4]
    refine run_gd_split (fun k1 => ?_) (fun k1 => ?_) <;> simp only [k1] <;> simp [Tryz.ntmps4, Tryz.results4] <;> (try simp only [Bool.not_eq_true', Bool.not_eq_false', decide_eq_true_eq, decide_eq_false_iff_not] at k1)
    · refine run_gd_split (fun k2 => ?_) (fun k2 => ?_) <;> simp only [k2] <;> simp [Tryz.ntmps4, Tryz.results4] <;> (try simp only [Bool.not_eq_true', Bool.not_eq_false', decide_eq_true_eq, decide_eq_false_iff_not] at k2)
      · refine run_gd_split (fun k3 => ?_) (fun k3 => ?_) <;> simp only [k3] <;> simp [Tryz.ntmps4, Tryz.results4] <;> (try simp only [Bool.not_eq_true', Bool.not_eq_false', decide_eq_true_eq, decide_eq_false_iff_not] at k3)
        · refine run_br_split (fun k4 => ?_) (fun k4 => ?_) <;> simp only [k4] <;> simp [Tryz.ntmps4, Tryz.results4] <;> (try simp only [Bool.not_eq_true', Bool.not_eq_false', decide_eq_true_eq, decide_eq_false_iff_not] at k4)
          · refine CW.callP (seen_l ⟨hv, [], 0, p, true⟩ (by simp only; omega)) Tryz.call18 rfl rfl rfl (by first | exact .inl rfl | exact .inr ⟨_, _, rfl, by simp⟩ | exact .inr ⟨_, _, rfl, by simp [*]⟩) rfl (by simp) rfl rfl (CW.runOps 9999 400 rfl ?_)
            simp [Tryz.ntmps4, Tryz.results4]
            refine CW.callP (seen_l ⟨hv, [], 0, p, true⟩ (by simp only; omega)) Tryz.call18 rfl rfl rfl (by first | exact .inl rfl | exact .inr ⟨_, _, rfl, by simp⟩ | exact .inr ⟨_, _, rfl, by simp [*]⟩) rfl (by simp) rfl rfl (CW.runOps 9999 400 rfl ?_)
            simp [Tryz.ntmps4, Tryz.results4]
            refine CW.callP (sameV_r ⟨hv, [], 0, p, true⟩ ⟨hv, [], 0, p, true⟩ okV) Tryz.call17 rfl rfl rfl (by first | exact .inl rfl | exact .inr ⟨_, _, rfl, by simp⟩ | exact .inr ⟨_, _, rfl, by simp [*]⟩) rfl (by simp) rfl rfl (CW.runOps 9999 400 rfl ?_)
            simp [Tryz.ntmps4, Tryz.results4]
            refine ⟨by decide +kernel, ?_⟩
            first | (exact fin0 (by simp) rfl) | (refine ⟨by decide +kernel, ?_⟩; exact fin0 (by simp) rfl)
          · exact absurd hfit (by simp [fitF, k1, k2, k3, k4])
        · refine CW.callP (seen_l ⟨hv, [], 0, p, true⟩ (by simp only; omega)) Tryz.call18 rfl rfl rfl (by first | exact .inl rfl | exact .inr ⟨_, _, rfl, by simp⟩ | exact .inr ⟨_, _, rfl, by simp [*]⟩) rfl (by simp) rfl rfl (CW.runOps 9999 400 rfl ?_)
          simp [Tryz.ntmps4, Tryz.results4]
          refine CW.callP (seen_l ⟨hv, [], 0, p, true⟩ (by simp only; omega)) Tryz.call18 rfl rfl rfl (by first | exact .inl rfl | exact .inr ⟨_, _, rfl, by simp⟩ | exact .inr ⟨_, _, rfl, by simp [*]⟩) rfl (by simp) rfl rfl (CW.runOps 9999 400 rfl ?_)
          simp [Tryz.ntmps4, Tryz.results4]
          refine CW.callP (sameV_r ⟨hv, [], 0, p, true⟩ ⟨hv, [], 0, p, true⟩ okV) Tryz.call17 rfl rfl rfl (by first | exact .inl rfl | exact .inr ⟨_, _, rfl, by simp⟩ | exact .inr ⟨_, _, rfl, by simp [*]⟩) rfl (by simp) rfl rfl (CW.runOps 9999 400 rfl ?_)
          simp [Tryz.ntmps4, Tryz.results4]
          refine ⟨by decide +kernel, ?_⟩
          first | (exact fin0 (by simp) rfl) | (refine ⟨by decide +kernel, ?_⟩; exact fin0 (by simp) rfl)
      · refine CW.callP (seen_l ⟨hv, [], 0, p, true⟩ (by simp only; omega)) Tryz.call18 rfl rfl rfl (by first | exact .inl rfl | exact .inr ⟨_, _, rfl, by simp⟩ | exact .inr ⟨_, _, rfl, by simp [*]⟩) rfl (by simp) rfl rfl (CW.runOps 9999 400 rfl ?_)
        simp [Tryz.ntmps4, Tryz.results4]
        refine CW.callP (seen_l ⟨hv, [], 0, p, true⟩ (by simp only; omega)) Tryz.call18 rfl rfl rfl (by first | exact .inl rfl | exact .inr ⟨_, _, rfl, by simp⟩ | exact .inr ⟨_, _, rfl, by simp [*]⟩) rfl (by simp) rfl rfl (CW.runOps 9999 400 rfl ?_)
        simp [Tryz.ntmps4, Tryz.results4]
        refine CW.callP (sameV_r ⟨hv, [], 0, p, true⟩ ⟨hv, [], 0, p, true⟩ okV) Tryz.call17 rfl rfl rfl (by first | exact .inl rfl | exact .inr ⟨_, _, rfl, by simp⟩ | exact .inr ⟨_, _, rfl, by simp [*]⟩) rfl (by simp) rfl rfl (CW.runOps 9999 400 rfl ?_)
        simp [Tryz.ntmps4, Tryz.results4]
        refine ⟨by decide +kernel, ?_⟩
        first | (exact fin0 (by simp) rfl) | (refine ⟨by decide +kernel, ?_⟩; exact fin0 (by simp) rfl)
    · refine CW.callP (seen_l ⟨hv, [], 0, p, true⟩ (by simp only; omega)) Tryz.call18 rfl rfl rfl (by first | exact .inl rfl | exact .inr ⟨_, _, rfl, by simp⟩ | exact .inr ⟨_, _, rfl, by simp [*]⟩) rfl (by simp) rfl rfl (CW.runOps 9999 400 rfl ?_)
      simp [Tryz.ntmps4, Tryz.results4]
      refine CW.callP (seen_l ⟨hv, [], 0, p, true⟩ (by simp only; omega)) Tryz.call18 rfl rfl rfl (by first | exact .inl rfl | exact .inr ⟨_, _, rfl, by simp⟩ | exact .inr ⟨_, _, rfl, by simp [*]⟩) rfl (by simp) rfl rfl (CW.runOps 9999 400 rfl ?_)
      simp [Tryz.ntmps4, Tryz.results4]
      refine CW.callP (sameV_r ⟨hv, [], 0, p, true⟩ ⟨hv, [], 0, p, true⟩ okV) Tryz.call17 rfl rfl rfl (by first | exact .inl rfl | exact .inr ⟨_, _, rfl, by simp⟩ | exact .inr ⟨_, _, rfl, by simp [*]⟩) rfl (by simp) rfl rfl (CW.runOps 9999 400 rfl ?_)
      simp [Tryz.ntmps4, Tryz.results4]
      refine ⟨by decide +kernel, ?_⟩
      first | (exact fin0 (by simp) rfl) | (refine ⟨by decide +kernel, ?_⟩; exact fin0 (by simp) rfl)
  | true =>
    have e2 := ansE_fit (v := ⟨hv, [], 0, p, true⟩) rfl hfit
    obtain ⟨X, H, T, hW, hH, hX0, hX1, okX, hXl⟩ := ans_fit hfit hh hp (by omega)
    simp only [fitF, Bool.and_eq_true, decide_eq_true_eq] at hfit
    obtain ⟨⟨⟨k1, k2⟩, k3⟩, k4⟩ := hfit
    have K1 := decide_eq_true k1
    have K2 := decide_eq_true k2
    have K3 := decide_eq_true k3
    have K4 := decide_eq_true k4
    clear k1 k2 k3 k4
    simp [hW, e2, K1, K2, K3, K4, Tryz.ntmps4, Tryz.results4]
    rcases hH with ⟨ht, rfl⟩ | ⟨ht, rfl⟩
    · have ht' : ¬ f.turn ≤ 0 := by omega
      simp [ht, Tryz.ntmps4, Tryz.results4]
      refine CW.callP (keysEq_r f.held f.held hf.held) Tryz.call26 rfl rfl rfl (by first | exact .inl rfl | exact .inr ⟨_, _, rfl, by simp⟩ | exact .inr ⟨_, _, rfl, by simp [*]⟩) rfl (by simp) rfl rfl (CW.runOps 9999 400 rfl ?_)
      simp [Tryz.ntmps4, Tryz.results4]
      simp [ht', Tryz.ntmps4, Tryz.results4]
      refine run_br_split (fun k7 => ?_) (fun k7 => ?_) <;> simp only [k7] <;> simp [Tryz.ntmps4, Tryz.results4] <;> (try simp only [Bool.not_eq_true', Bool.not_eq_false', decide_eq_true_eq, decide_eq_false_iff_not] at k7)
      · have e := hX1 k7
        subst e
        refine CW.callP (all_r X X okX) Tryz.call27 rfl rfl rfl (by first | exact .inl rfl | exact .inr ⟨_, _, rfl, by simp⟩ | exact .inr ⟨_, _, rfl, by simp [*]⟩) rfl (by simp) rfl rfl (CW.runOps 9999 400 rfl ?_)
        simp [Tryz.ntmps4, Tryz.results4]
        first | (exact fin0 (by simp) rfl) | (refine ⟨by decide +kernel, ?_⟩; exact fin0 (by simp) rfl)
      · have e := hX0 k7
        refine LoopW.inv mixed (Plain.retC _ _ _ _ _) rfl (ι := {k : Nat // k ≤ (p.adds).length}) (fun k => [(0, lst (hv.map resC)), (4, .ptr 64 0), (5, .ptr 65 0), (7, bool true), (9, .ptr 66 0), (12, int k.1)]) (fun k => [(64, .cells ((frameC p).map .d) 27), (65, .cells ((frameC f).map .d) 27), (66, .cells ((viewC ⟨X, f.held, T, zFrame, false⟩).map .d) 39)]) 67 (fun k => (p.adds).length - k.1) ⟨0, by omega⟩ [] (by constructor <;> simp) ?_
        rintro ⟨k, hk1⟩ B hB
        refine CW.run 9999 400 rfl ?_
        simp [Tryz.ntmps4, Tryz.results4]
        refine run_br_split (fun h => ?_) (fun h => ?_)
        · have hk : k < (p.adds).length := by simpa using h
          have hr : (p.adds)[k]? = some (p.adds)[k] := List.getElem?_eq_getElem hk
          have hm : (p.adds)[k] ∈ (p.adds) := List.getElem_mem hk
          have ht : (p.adds).take (k + 1) = (p.adds).take k ++ [(p.adds)[k]] := by rw [List.take_add_one, hr]; rfl
          have hd : (p.adds).drop k = (p.adds)[k] :: (p.adds).drop (k + 1) := List.drop_eq_getElem_cons hk
          have hw : IntKind.wrap .i64 ((k : Int) + 1) = k + 1 := wrap_i64 (by omega) (by omega)
          obtain ⟨x, hx⟩ : ∃ x0, (p.adds)[k] = x0 := ⟨_, rfl⟩
          rw [hx] at hr hm ht hd
          simp only [h]
          simp [hr, hw, Tryz.ntmps4, Tryz.results4]
          have hg : (getR X x.key).isSome = true := by rw [e]; exact getR_patch hm
          refine CW.callP (key_p x) Tryz.call29 rfl rfl rfl (by first | exact .inl rfl | exact .inr ⟨_, _, rfl, by simp⟩ | exact .inr ⟨_, _, rfl, by simp [*]⟩) rfl (by simp) rfl rfl (CW.runOps 9999 400 rfl ?_)
          simp [Tryz.ntmps4, Tryz.results4]
          refine CW.callP (get_p X x.key (by omega)) Tryz.call28 rfl rfl rfl (by first | exact .inl rfl | exact .inr ⟨_, _, rfl, by simp⟩ | exact .inr ⟨_, _, rfl, by simp [*]⟩) rfl (by simp [hg]) rfl rfl (CW.runOps 9999 400 rfl ?_)
          simp [hg, Tryz.ntmps4, Tryz.results4]
          refine ⟨by decide +kernel, ?_⟩
          refine hB _ ⟨k + 1, by omega⟩ [] ?_ (by simp; omega)
          constructor <;> simp [hw, ht]
        · have hkl : k = (p.adds).length := by simp at h; omega
          subst hkl
          simp only [h]
          simp [List.take_length, List.drop_length, Tryz.ntmps4, Tryz.results4]
          have okW : OkView ⟨X, f.held, T, zFrame, false⟩ := ⟨okX, by simp only [List.length_nil]; omega, ok_zF⟩
          have q1 := ansV_closed (v := ⟨X, f.held, T, zFrame, false⟩) (f := f) rfl
          have q2 := ansE_closed (v := ⟨X, f.held, T, zFrame, false⟩) (f := f) rfl
          refine CW.callP (frame1_l f (by omega)) Tryz.call15 rfl rfl rfl (by first | exact .inl rfl | exact .inr ⟨_, _, rfl, by simp⟩ | exact .inr ⟨_, _, rfl, by simp [*]⟩) rfl (by simp) rfl rfl (CW.runOps 9999 400 rfl ?_)
          simp [Tryz.ntmps4, Tryz.results4]
          refine CW.callP (answered_p ⟨X, f.held, T, zFrame, false⟩ f (by simp [zFrame]; omega) (by simp [zFrame])) Tryz.call13 rfl rfl rfl (by first | exact .inl rfl | exact .inr ⟨_, _, rfl, by simp⟩ | exact .inr ⟨_, _, rfl, by simp [*]⟩) rfl (by simp [q1, q2]) rfl rfl (CW.runOps 9999 400 rfl ?_)
          simp [q1, q2, Tryz.ntmps4, Tryz.results4]
          refine ⟨by decide +kernel, ?_⟩
          refine CW.callP (patch_p hv p.adds p.gone (by omega) (by omega)) Tryz.call30 rfl rfl rfl (by first | exact .inl rfl | exact .inr ⟨_, _, rfl, by simp⟩ | exact .inr ⟨_, _, rfl, by simp [*]⟩) rfl (by simp) rfl rfl (CW.runOps 9999 400 rfl ?_)
          simp [Tryz.ntmps4, Tryz.results4]
          rw [← e]
          refine CW.callP (all_r X X okX) Tryz.call27 rfl rfl rfl (by first | exact .inl rfl | exact .inr ⟨_, _, rfl, by simp⟩ | exact .inr ⟨_, _, rfl, by simp [*]⟩) rfl (by simp) rfl rfl (CW.runOps 9999 400 rfl ?_)
          simp [Tryz.ntmps4, Tryz.results4]
          refine CW.callP (seen_l ⟨X, f.held, T, zFrame, false⟩ (by simp [zFrame])) Tryz.call18 rfl rfl rfl (by first | exact .inl rfl | exact .inr ⟨_, _, rfl, by simp⟩ | exact .inr ⟨_, _, rfl, by simp [*]⟩) rfl (by simp) rfl rfl (CW.runOps 9999 400 rfl ?_)
          simp [Tryz.ntmps4, Tryz.results4]
          refine CW.callP (seen_l ⟨X, f.held, T, zFrame, false⟩ (by simp [zFrame])) Tryz.call18 rfl rfl rfl (by first | exact .inl rfl | exact .inr ⟨_, _, rfl, by simp⟩ | exact .inr ⟨_, _, rfl, by simp [*]⟩) rfl (by simp) rfl rfl (CW.runOps 9999 400 rfl ?_)
          simp [Tryz.ntmps4, Tryz.results4]
          refine CW.callP (sameV_r ⟨X, f.held, T, zFrame, false⟩ ⟨X, f.held, T, zFrame, false⟩ okW) Tryz.call17 rfl rfl rfl (by first | exact .inl rfl | exact .inr ⟨_, _, rfl, by simp⟩ | exact .inr ⟨_, _, rfl, by simp [*]⟩) rfl (by simp) rfl rfl (CW.runOps 9999 400 rfl ?_)
          simp [Tryz.ntmps4, Tryz.results4]
          refine ⟨by decide +kernel, ?_⟩
          first | (exact fin0 (by simp) rfl) | (refine ⟨by decide +kernel, ?_⟩; exact fin0 (by simp) rfl)
    · have ht' : f.turn ≤ 0 := by omega
      simp [ht, ht', Tryz.ntmps4, Tryz.results4]
      refine run_br_split (fun k7 => ?_) (fun k7 => ?_) <;> simp only [k7] <;> simp [Tryz.ntmps4, Tryz.results4] <;> (try simp only [Bool.not_eq_true', Bool.not_eq_false', decide_eq_true_eq, decide_eq_false_iff_not] at k7)
      · have e := hX1 k7
        subst e
        refine CW.callP (all_r X X okX) Tryz.call27 rfl rfl rfl (by first | exact .inl rfl | exact .inr ⟨_, _, rfl, by simp⟩ | exact .inr ⟨_, _, rfl, by simp [*]⟩) rfl (by simp) rfl rfl (CW.runOps 9999 400 rfl ?_)
        simp [Tryz.ntmps4, Tryz.results4]
        first | (exact fin0 (by simp) rfl) | (refine ⟨by decide +kernel, ?_⟩; exact fin0 (by simp) rfl)
      · have e := hX0 k7
        refine LoopW.inv mixed (Plain.retC _ _ _ _ _) rfl (ι := {k : Nat // k ≤ (p.adds).length}) (fun k => [(0, lst (hv.map resC)), (4, .ptr 64 0), (5, .ptr 65 0), (7, bool true), (9, .ptr 66 0), (12, int k.1)]) (fun k => [(64, .cells ((frameC p).map .d) 27), (65, .cells ((frameC f).map .d) 27), (66, .cells ((viewC ⟨X, [], T, zFrame, false⟩).map .d) 39)]) 67 (fun k => (p.adds).length - k.1) ⟨0, by omega⟩ [] (by constructor <;> simp) ?_
        rintro ⟨k, hk1⟩ B hB
        refine CW.run 9999 400 rfl ?_
        simp [Tryz.ntmps4, Tryz.results4]
        refine run_br_split (fun h => ?_) (fun h => ?_)
        · have hk : k < (p.adds).length := by simpa using h
          have hr : (p.adds)[k]? = some (p.adds)[k] := List.getElem?_eq_getElem hk
          have hm : (p.adds)[k] ∈ (p.adds) := List.getElem_mem hk
          have ht : (p.adds).take (k + 1) = (p.adds).take k ++ [(p.adds)[k]] := by rw [List.take_add_one, hr]; rfl
          have hd : (p.adds).drop k = (p.adds)[k] :: (p.adds).drop (k + 1) := List.drop_eq_getElem_cons hk
          have hw : IntKind.wrap .i64 ((k : Int) + 1) = k + 1 := wrap_i64 (by omega) (by omega)
          obtain ⟨x, hx⟩ : ∃ x0, (p.adds)[k] = x0 := ⟨_, rfl⟩
          rw [hx] at hr hm ht hd
          simp only [h]
          simp [hr, hw, Tryz.ntmps4, Tryz.results4]
          have hg : (getR X x.key).isSome = true := by rw [e]; exact getR_patch hm
          refine CW.callP (key_p x) Tryz.call29 rfl rfl rfl (by first | exact .inl rfl | exact .inr ⟨_, _, rfl, by simp⟩ | exact .inr ⟨_, _, rfl, by simp [*]⟩) rfl (by simp) rfl rfl (CW.runOps 9999 400 rfl ?_)
          simp [Tryz.ntmps4, Tryz.results4]
          refine CW.callP (get_p X x.key (by omega)) Tryz.call28 rfl rfl rfl (by first | exact .inl rfl | exact .inr ⟨_, _, rfl, by simp⟩ | exact .inr ⟨_, _, rfl, by simp [*]⟩) rfl (by simp [hg]) rfl rfl (CW.runOps 9999 400 rfl ?_)
          simp [hg, Tryz.ntmps4, Tryz.results4]
          refine ⟨by decide +kernel, ?_⟩
          refine hB _ ⟨k + 1, by omega⟩ [] ?_ (by simp; omega)
          constructor <;> simp [hw, ht]
        · have hkl : k = (p.adds).length := by simp at h; omega
          subst hkl
          simp only [h]
          simp [List.take_length, List.drop_length, Tryz.ntmps4, Tryz.results4]
          have okW : OkView ⟨X, [], T, zFrame, false⟩ := ⟨okX, by simp only [List.length_nil]; omega, ok_zF⟩
          have q1 := ansV_closed (v := ⟨X, [], T, zFrame, false⟩) (f := f) rfl
          have q2 := ansE_closed (v := ⟨X, [], T, zFrame, false⟩) (f := f) rfl
          refine CW.callP (frame1_l f (by omega)) Tryz.call15 rfl rfl rfl (by first | exact .inl rfl | exact .inr ⟨_, _, rfl, by simp⟩ | exact .inr ⟨_, _, rfl, by simp [*]⟩) rfl (by simp) rfl rfl (CW.runOps 9999 400 rfl ?_)
          simp [Tryz.ntmps4, Tryz.results4]
          refine CW.callP (answered_p ⟨X, [], T, zFrame, false⟩ f (by simp [zFrame]; omega) (by simp [zFrame])) Tryz.call13 rfl rfl rfl (by first | exact .inl rfl | exact .inr ⟨_, _, rfl, by simp⟩ | exact .inr ⟨_, _, rfl, by simp [*]⟩) rfl (by simp [q1, q2]) rfl rfl (CW.runOps 9999 400 rfl ?_)
          simp [q1, q2, Tryz.ntmps4, Tryz.results4]
          refine ⟨by decide +kernel, ?_⟩
          refine CW.callP (patch_p hv p.adds p.gone (by omega) (by omega)) Tryz.call30 rfl rfl rfl (by first | exact .inl rfl | exact .inr ⟨_, _, rfl, by simp⟩ | exact .inr ⟨_, _, rfl, by simp [*]⟩) rfl (by simp) rfl rfl (CW.runOps 9999 400 rfl ?_)
          simp [Tryz.ntmps4, Tryz.results4]
          rw [← e]
          refine CW.callP (all_r X X okX) Tryz.call27 rfl rfl rfl (by first | exact .inl rfl | exact .inr ⟨_, _, rfl, by simp⟩ | exact .inr ⟨_, _, rfl, by simp [*]⟩) rfl (by simp) rfl rfl (CW.runOps 9999 400 rfl ?_)
          simp [Tryz.ntmps4, Tryz.results4]
          refine CW.callP (seen_l ⟨X, [], T, zFrame, false⟩ (by simp [zFrame])) Tryz.call18 rfl rfl rfl (by first | exact .inl rfl | exact .inr ⟨_, _, rfl, by simp⟩ | exact .inr ⟨_, _, rfl, by simp [*]⟩) rfl (by simp) rfl rfl (CW.runOps 9999 400 rfl ?_)
          simp [Tryz.ntmps4, Tryz.results4]
          refine CW.callP (seen_l ⟨X, [], T, zFrame, false⟩ (by simp [zFrame])) Tryz.call18 rfl rfl rfl (by first | exact .inl rfl | exact .inr ⟨_, _, rfl, by simp⟩ | exact .inr ⟨_, _, rfl, by simp [*]⟩) rfl (by simp) rfl rfl (CW.runOps 9999 400 rfl ?_)
          simp [Tryz.ntmps4, Tryz.results4]
          refine CW.callP (sameV_r ⟨X, [], T, zFrame, false⟩ ⟨X, [], T, zFrame, false⟩ okW) Tryz.call17 rfl rfl rfl (by first | exact .inl rfl | exact .inr ⟨_, _, rfl, by simp⟩ | exact .inr ⟨_, _, rfl, by simp [*]⟩) rfl (by simp) rfl rfl (CW.runOps 9999 400 rfl ?_)
          simp [Tryz.ntmps4, Tryz.results4]
          refine ⟨by decide +kernel, ?_⟩
          first | (exact fin0 (by simp) rfl) | (refine ⟨by decide +kernel, ?_⟩; exact fin0 (by simp) rfl)

end Go.Proofs.YtnccdcgpabaopaaGreatDoor
end
