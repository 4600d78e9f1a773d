/-
  LAYERS 1 to 3: the walks of names, hosts, paths, and of what is wrong with a resource, of the program and of the reference.
-/
import Derived.Test.YtnmocaniljacpaaGreatDoorTy
import Derived.Test.YtnmocaniljacpaaGreatDoorPl
import Derived.Test.YtnmocaniljacpaaGreatDoorFc
set_option linter.unusedSimpArgs false
set_option linter.unusedVariables false
section
namespace Go.Proofs.YtnmocaniljacpaaGreatDoor
open Go.AI Go.G
theorem mixed : Tryz.prog.follows .mixedOrders = true := by kernel_rfl
theorem low_r (c : UInt8) : Ct Tryz.prog 193 [byte c] [] [] (bool (lowB c)) [] := by
  refine Ct.of_body Tryz.func193 rfl mixed (by rw [Tryz.ntmps193]; simp) (CW.run 9999 400 rfl ?_)
  simp [Tryz.ntmps193, Tryz.results193]
  repeat' first
    | (refine run_gd_split (fun h => ?_) (fun h => ?_) <;> simp only [h] <;> simp [h, Tryz.ntmps193, Tryz.results193])
    | (refine run_br_split (fun h => ?_) (fun h => ?_) <;> simp only [h] <;> simp [h, Tryz.ntmps193, Tryz.results193])
    | (refine ⟨(show DrawSide _ _ from by decide +kernel), ?_⟩)
  all_goals exact fin0 (by simp [*, lowB]) rfl
theorem part_r (c : UInt8) : Ct Tryz.prog 194 [byte c] [] [] (bool (partB c)) [] := by
  refine Ct.of_body Tryz.func194 rfl mixed (by rw [Tryz.ntmps194]; simp) (CW.run 9999 400 rfl ?_)
  simp [Tryz.ntmps194, Tryz.results194]
  refine CW.callP (low_r c) Tryz.call193 rfl rfl rfl (by first | exact .inl rfl | exact .inr ⟨_, _, rfl, by simp⟩ | exact .inr ⟨_, _, rfl, by simp [*]⟩) rfl (by simp) rfl rfl (CW.runOps 9999 400 rfl ?_)
  simp [Tryz.ntmps194, Tryz.results194]
  repeat' first
    | (refine run_gd_split (fun h => ?_) (fun h => ?_) <;> simp only [h] <;> simp [h, Tryz.ntmps194, Tryz.results194])
    | (refine run_br_split (fun h => ?_) (fun h => ?_) <;> simp only [h] <;> simp [h, Tryz.ntmps194, Tryz.results194])
    | (refine ⟨(show DrawSide _ _ from by decide +kernel), ?_⟩)
  all_goals exact fin0 (by simp [*, partB]) rfl
theorem nameSane_r (s : Str) : Ct Tryz.prog 183 [str s] [] [] (bool (nameB s)) [] := by
  refine Ct.of_body Tryz.func183 rfl mixed (by rw [Tryz.ntmps183]; simp) (CW.run 9999 400 rfl ?_)
  simp [Tryz.ntmps183, Tryz.results183]
  have hsz := size_bs s
  refine run_gd_split (fun h1 => ?_) (fun h1 => ?_) <;> simp only [h1] <;> simp [Tryz.ntmps183, Tryz.results183]
  · have hz : (bs s).length = 0 := by have := of_decide_eq_true h1; omega
    first | (exact fin0 (by simp [nameB, saneL, hz]) rfl) | (refine ⟨by decide +kernel, ?_⟩; exact fin0 (by simp [nameB, saneL, hz]) rfl)
  refine run_gd_split (fun h2 => ?_) (fun h2 => ?_) <;> simp only [h2] <;> simp [Tryz.ntmps183, Tryz.results183]
  · have hz : ¬ ((bs s).length ≤ 12) := by have := of_decide_eq_true h2; omega
    first | (exact fin0 (by simp [nameB, saneL, hz]) rfl) | (refine ⟨by decide +kernel, ?_⟩; exact fin0 (by simp [nameB, saneL, hz]) rfl)
  obtain ⟨c, l, hs⟩ : ∃ c l, bs s = c :: l := by
    have := of_decide_eq_false h1
    cases hb : bs s with
    | nil => rw [hb] at hsz; simp only [List.length_nil] at hsz; omega
    | cons c l => exact ⟨c, l, rfl⟩
  simp [get_bs, hs, Tryz.ntmps183, Tryz.results183]
  refine CW.callP (low_r c) Tryz.call193 rfl rfl rfl (by first | exact .inl rfl | exact .inr ⟨_, _, rfl, by simp⟩ | exact .inr ⟨_, _, rfl, by simp [*]⟩) rfl (by simp) rfl rfl (CW.runOps 9999 400 rfl ?_)
  simp [Tryz.ntmps183, Tryz.results183]
  refine run_br_split (fun h3 => ?_) (fun h3 => ?_) <;> simp only [h3] <;> simp [Tryz.ntmps183, Tryz.results183]
  · have h3' : lowB c = false := by simpa using h3
    first | (exact fin0 (by simp [nameB, saneL, hs, h3']) rfl) | (refine ⟨by decide +kernel, ?_⟩; exact fin0 (by simp [nameB, saneL, hs, h3']) rfl)
  have h3' : lowB c = true := by simpa using h3
  have hle : (bs s).length ≤ 12 := by have := of_decide_eq_false h2; omega
  have h1' : 1 ≤ (bs s).length := by rw [hs]; simp
  refine LoopW.inv mixed (Plain.retC _ _ _ _ _) rfl (ι := {k : Nat // k ≤ ((bs s)).length ∧ ((bs s).take k).all partB = true}) (fun k => [(0, str s), (3, int k.1)]) (fun k => []) 64 (fun k => ((bs s)).length - k.1) ⟨0, by omega, by simp⟩ [] (by constructor <;> simp [hsz]) ?_
  rintro ⟨k, hk1, hi⟩ B hB
  refine CW.run 9999 400 rfl ?_
  simp [hsz, Tryz.ntmps183, Tryz.results183]
  refine run_br_split (fun h => ?_) (fun h => ?_)
  · have hk : k < ((bs s)).length := by simpa using h
    have hr : ((bs s))[k]? = some ((bs s))[k] := List.getElem?_eq_getElem hk
    have hm : ((bs s))[k] ∈ ((bs s)) := List.getElem_mem hk
    have ht : ((bs s)).take (k + 1) = ((bs s)).take k ++ [((bs s))[k]] := by rw [List.take_add_one, hr]; rfl
    have hd : ((bs s)).drop k = ((bs s))[k] :: ((bs s)).drop (k + 1) := List.drop_eq_getElem_cons hk
    have hw : IntKind.wrap .i64 ((k : Int) + 1) = k + 1 := wrap_i64 (by omega) (by omega)
    obtain ⟨b, hx⟩ : ∃ x0, ((bs s))[k] = x0 := ⟨_, rfl⟩
    rw [hx] at hr hm ht hd
    simp only [h]
    simp [hr, hw, get_bs, Tryz.ntmps183, Tryz.results183]
    refine CW.callP (part_r b) Tryz.call194 rfl rfl rfl (by first | exact .inl rfl | exact .inr ⟨_, _, rfl, by simp⟩ | exact .inr ⟨_, _, rfl, by simp [*]⟩) rfl (by simp) rfl rfl (CW.runOps 9999 400 rfl ?_)
    simp [Tryz.ntmps183, Tryz.results183]
    refine run_br_split (fun h4 => ?_) (fun h4 => ?_) <;> simp only [h4] <;> simp [Tryz.ntmps183, Tryz.results183]
    · have h4' : (bs s).all partB = false := by
        have : partB b = false := by simpa using h4
        rw [List.all_eq_false]; exact ⟨b, hm, by simp [this]⟩
      first | (exact fin0 (by simp [nameB, saneL, h4']) rfl) | (refine ⟨by decide +kernel, ?_⟩; exact fin0 (by simp [nameB, saneL, h4']) rfl)
    · have h4' : partB b = true := by simpa using h4
      refine hB _ ⟨k + 1, by omega, by simp [ht, hi, h4']⟩ [] ?_ (by simp; omega)
      constructor <;> simp [hw, ht, h4']
  · have hkl : k = ((bs s)).length := by simp at h; omega
    subst hkl
    simp only [h]
    simp [List.take_length, List.drop_length, Tryz.ntmps183, Tryz.results183]
    rw [List.take_length] at hi
    have e : nameB s = true := by
      simp only [nameB, saneL, hi, h1', hle, decide_true, Bool.true_and, Bool.and_true]
      rw [hs]; exact h3'
    first | (exact fin0 (by simp [e]) rfl) | (refine ⟨by decide +kernel, ?_⟩; exact fin0 (by simp [e]) rfl)
theorem path_r (s : Str) : Ct Tryz.prog 196 [str s] [] [] (bool (pathB s)) [] := by
  refine Ct.of_body Tryz.func196 rfl mixed (by rw [Tryz.ntmps196]; simp) (CW.run 9999 400 rfl ?_)
  simp [Tryz.ntmps196, Tryz.results196]
  have hsz := size_bs s
  refine run_gd_split (fun h1 => ?_) (fun h1 => ?_) <;> simp only [h1] <;> simp [Tryz.ntmps196, Tryz.results196]
  · have hz : (bs s).length = 0 := by have := of_decide_eq_true h1; omega
    first | (exact fin0 (by simp [pathB, hz]) rfl) | (refine ⟨by decide +kernel, ?_⟩; exact fin0 (by simp [pathB, hz]) rfl)
  refine run_gd_split (fun h2 => ?_) (fun h2 => ?_) <;> simp only [h2] <;> simp [Tryz.ntmps196, Tryz.results196]
  · have hz : ¬ ((bs s).length ≤ 40) := by have := of_decide_eq_true h2; omega
    first | (exact fin0 (by simp [pathB, hz]) rfl) | (refine ⟨by decide +kernel, ?_⟩; exact fin0 (by simp [pathB, hz]) rfl)
  obtain ⟨c, l, hs⟩ : ∃ c l, bs s = c :: l := by
    have := of_decide_eq_false h1
    cases hb : bs s with
    | nil => rw [hb] at hsz; simp only [List.length_nil] at hsz; omega
    | cons c l => exact ⟨c, l, rfl⟩
  simp [get_bs, hs, Tryz.ntmps196, Tryz.results196]
  refine run_br_split (fun h3 => ?_) (fun h3 => ?_) <;> simp only [h3] <;> simp [Tryz.ntmps196, Tryz.results196]
  · have h3' : ¬ (c.toNat = 47) := by simp at h3; omega
    first | (exact fin0 (by simp [pathB, hs, h3']) rfl) | (refine ⟨by decide +kernel, ?_⟩; exact fin0 (by simp [pathB, hs, h3']) rfl)
  have h3' : c.toNat = 47 := by simp at h3; omega
  have hle : (bs s).length ≤ 40 := by have := of_decide_eq_false h2; omega
  have h1' : 1 ≤ (bs s).length := by rw [hs]; simp
  refine LoopW.inv mixed (Plain.retC _ _ _ _ _) rfl (ι := {k : Nat // k ≤ ((bs s)).length ∧ ((bs s).take k).all slB = true}) (fun k => [(0, str s), (3, int k.1)]) (fun k => []) 64 (fun k => ((bs s)).length - k.1) ⟨0, by omega, by simp⟩ [] (by constructor <;> simp [hsz]) ?_
  rintro ⟨k, hk1, hi⟩ B hB
  refine CW.run 9999 400 rfl ?_
  simp [hsz, Tryz.ntmps196, Tryz.results196]
  refine run_br_split (fun h => ?_) (fun h => ?_)
  · have hk : k < ((bs s)).length := by simpa using h
    have hr : ((bs s))[k]? = some ((bs s))[k] := List.getElem?_eq_getElem hk
    have hm : ((bs s))[k] ∈ ((bs s)) := List.getElem_mem hk
    have ht : ((bs s)).take (k + 1) = ((bs s)).take k ++ [((bs s))[k]] := by rw [List.take_add_one, hr]; rfl
    have hd : ((bs s)).drop k = ((bs s))[k] :: ((bs s)).drop (k + 1) := List.drop_eq_getElem_cons hk
    have hw : IntKind.wrap .i64 ((k : Int) + 1) = k + 1 := wrap_i64 (by omega) (by omega)
    obtain ⟨b, hx⟩ : ∃ x0, ((bs s))[k] = x0 := ⟨_, rfl⟩
    rw [hx] at hr hm ht hd
    simp only [h]
    simp [hr, hw, get_bs, Tryz.ntmps196, Tryz.results196]
    refine CW.callP (part_r b) Tryz.call194 rfl rfl rfl (by first | exact .inl rfl | exact .inr ⟨_, _, rfl, by simp⟩ | exact .inr ⟨_, _, rfl, by simp [*]⟩) rfl (by simp) rfl rfl (CW.runOps 9999 400 rfl ?_)
    simp [Tryz.ntmps196, Tryz.results196]
    refine run_gd_split (fun h4 => ?_) (fun h4 => ?_) <;> simp only [h4] <;> simp [get_bs, hr, Tryz.ntmps196, Tryz.results196]
    · refine run_br_split (fun h5 => ?_) (fun h5 => ?_) <;> simp only [h5] <;> simp [Tryz.ntmps196, Tryz.results196]
      · have h4' : (bs s).all slB = false := by
          have : slB b = false := by simp [slB] at h4 h5 ⊢; exact ⟨h4, by omega⟩
          rw [List.all_eq_false]; exact ⟨b, hm, by simp [this]⟩
        first | (exact fin0 (by simp [pathB, h4']) rfl) | (refine ⟨by decide +kernel, ?_⟩; exact fin0 (by simp [pathB, h4']) rfl)
      · have h4' : slB b = true := by simp [slB] at h4 h5 ⊢; exact .inr (by omega)
        refine hB _ ⟨k + 1, by omega, by simp [ht, hi, h4']⟩ [] ?_ (by simp; omega)
        constructor <;> simp [hw, ht, h4']
    · have h4' : slB b = true := by simp [slB] at h4 ⊢; exact .inl h4
      refine hB _ ⟨k + 1, by omega, by simp [ht, hi, h4']⟩ [] ?_ (by simp; omega)
      constructor <;> simp [hw, ht, h4']
  · have hkl : k = ((bs s)).length := by simp at h; omega
    subst hkl
    simp only [h]
    simp [List.take_length, List.drop_length, Tryz.ntmps196, Tryz.results196]
    rw [List.take_length] at hi
    have e : pathB s = true := by
      simp only [pathB, hi, h1', hle, decide_true, Bool.true_and, Bool.and_true]
      rw [hs]; simpa using h3'
    first | (exact fin0 (by simp [e]) rfl) | (refine ⟨by decide +kernel, ?_⟩; exact fin0 (by simp [e]) rfl)
theorem star_r (s : Str) : Ct Tryz.prog 198 [str s] [] [] (bool (starL (bs s))) [] := by
  refine Ct.of_body Tryz.func198 rfl mixed (by rw [Tryz.ntmps198]; simp) (CW.run 9999 400 rfl ?_)
  simp [Tryz.ntmps198, Tryz.results198]
  have hsz := size_bs s
  refine run_gd_split (fun h1 => ?_) (fun h1 => ?_) <;> simp only [h1] <;> simp [Tryz.ntmps198, Tryz.results198]
  · have hz : 2 ≤ (bs s).length := by have := of_decide_eq_true h1; omega
    refine ⟨by omega, ?_⟩
    simp [str_eq, bs_extract, Tryz.ntmps198, Tryz.results198]
    first | (exact fin0 (by simp [starL, hz]) rfl) | (refine ⟨by decide +kernel, ?_⟩; exact fin0 (by simp [starL, hz]) rfl)
  · have hz : ¬ (2 ≤ (bs s).length) := by have := of_decide_eq_false h1; omega
    first | (exact fin0 (by simp [starL, hz]) rfl) | (refine ⟨by decide +kernel, ?_⟩; exact fin0 (by simp [starL, hz]) rfl)
theorem cmp_r (a b : Str) (hl : (bs a).length ≤ 9223372036854775807 ∨ (bs b).length ≤ 9223372036854775807) : Ct Tryz.prog 187 [str a, str b] [] [] (int (cmpS a b)) [] := by
  refine Ct.of_body Tryz.func187 rfl mixed (by rw [Tryz.ntmps187]; simp) (CW.run 9999 400 rfl ?_)
  simp [Tryz.ntmps187, Tryz.results187]
  have hsa := size_bs a
  have hsb := size_bs b
  refine LoopW.inv mixed (Plain.retC _ _ _ _ _) rfl (ι := {k : Nat // k ≤ (bs a).length ∧ k ≤ (bs b).length ∧ (bs a).take k = (bs b).take k}) (fun k => [(0, str a), (1, str b), (5, int k.1)]) (fun k => []) 64 (fun k => (bs a).length - k.1) ⟨0, by omega, by omega, by simp⟩ [] (by constructor <;> simp) ?_
  rintro ⟨k, hk1, hk2, hi⟩ B hB
  refine CW.run 9999 400 rfl ?_
  simp [hsa, hsb, Tryz.ntmps187, Tryz.results187]
  refine run_gd_split (fun h1 => ?_) (fun h1 => ?_) <;> simp only [h1] <;> simp [hsa, hsb, Tryz.ntmps187, Tryz.results187]
  · have hka : k < (bs a).length := by have := of_decide_eq_true h1; omega
    have hra : (bs a)[k]? = some (bs a)[k] := List.getElem?_eq_getElem hka
    have hda : (bs a).drop k = (bs a)[k] :: (bs a).drop (k + 1) := List.drop_eq_getElem_cons hka
    have hta : (bs a).take (k + 1) = (bs a).take k ++ [(bs a)[k]] := by rw [List.take_add_one, hra]; rfl
    generalize (bs a)[k] = x at hra hda hta
    refine run_br_split (fun h2 => ?_) (fun h2 => ?_)
    · have hkb : k < (bs b).length := by have := of_decide_eq_true h2; omega
      have hrb : (bs b)[k]? = some (bs b)[k] := List.getElem?_eq_getElem hkb
      have hdb : (bs b).drop k = (bs b)[k] :: (bs b).drop (k + 1) := List.drop_eq_getElem_cons hkb
      have htb : (bs b).take (k + 1) = (bs b).take k ++ [(bs b)[k]] := by rw [List.take_add_one, hrb]; rfl
      generalize (bs b)[k] = y at hrb hdb htb
      have e := compare_take k hi hk1 hk2
      rw [hda, hdb] at e
      simp only [Lib.compareBytes] at e
      have hw : IntKind.wrap .i64 ((k : Int) + 1) = k + 1 := wrap_i64 (by omega) (by omega)
      simp only [h2]
      simp [get_bs, hra, hrb, Tryz.ntmps187, Tryz.results187]
      refine ⟨by decide +kernel, ?_⟩
      refine run_br_split (fun h3 => ?_) (fun h3 => ?_) <;> simp only [h3] <;> simp [get_bs, hra, hrb, Tryz.ntmps187, Tryz.results187]
      · have h3' : x < y := by simpa [UInt8.lt_iff_toNat_lt] using h3
        rw [if_pos h3'] at e
        first | (exact fin0 (by simp [cmpS, e]) rfl) | (refine ⟨by decide +kernel, ?_⟩; exact fin0 (by simp [cmpS, e]) rfl)
      have h3' : ¬ x < y := by simpa [UInt8.lt_iff_toNat_lt] using h3
      rw [if_neg h3'] at e
      refine ⟨by decide +kernel, ?_⟩
      refine run_br_split (fun h4 => ?_) (fun h4 => ?_) <;> simp only [h4] <;> simp [get_bs, hra, hrb, Tryz.ntmps187, Tryz.results187]
      · have h4' : y < x := by simpa [UInt8.lt_iff_toNat_lt] using h4
        rw [if_pos h4'] at e
        first | (exact fin0 (by simp [cmpS, e]) rfl) | (refine ⟨by decide +kernel, ?_⟩; exact fin0 (by simp [cmpS, e]) rfl)
      have h4' : ¬ y < x := by simpa [UInt8.lt_iff_toNat_lt] using h4
      have hxy : x = y := by
        simp only [UInt8.lt_iff_toNat_lt] at h3' h4'
        exact UInt8.toNat_inj.1 (by omega)
      refine hB _ ⟨k + 1, by omega, by omega, by rw [hta, htb, hi, hxy]⟩ [] ?_ (by simp; omega)
      constructor <;> simp [hw]
    · have hkb : k = (bs b).length := by have := of_decide_eq_false h2; omega
      have e := compare_take k hi hk1 hk2
      rw [hda, hkb, List.drop_length] at e
      simp only [Lib.compareBytes] at e
      have h3 : ¬ (bs a).length < (bs b).length := by omega
      have h4 : (bs b).length < (bs a).length := by omega
      simp only [h2]
      simp [hsa, hsb, h3, h4, Tryz.ntmps187, Tryz.results187]
      first | (exact fin0 (by simp [cmpS, e]) rfl) | (refine ⟨by decide +kernel, ?_⟩; exact fin0 (by simp [cmpS, e]) rfl)
  · have hka : k = (bs a).length := by have := of_decide_eq_false h1; omega
    have e := compare_take k hi hk1 hk2
    rw [hka, List.drop_length] at e
    by_cases h3 : (bs a).length < (bs b).length
    · have hdb : (bs b).drop (bs a).length = (bs b)[(bs a).length] :: (bs b).drop ((bs a).length + 1) := List.drop_eq_getElem_cons h3
      rw [hdb] at e
      simp only [Lib.compareBytes] at e
      simp [h3, Tryz.ntmps187, Tryz.results187]
      first | (exact fin0 (by simp [cmpS, e]) rfl) | (refine ⟨by decide +kernel, ?_⟩; exact fin0 (by simp [cmpS, e]) rfl)
    · have h4 : (bs b).length = (bs a).length := by omega
      rw [← h4, List.drop_length] at e
      simp only [Lib.compareBytes] at e
      have h5 : ¬ (bs b).length < (bs a).length := by omega
      simp [h3, h5, hsa, hsb, Tryz.ntmps187, Tryz.results187]
      first | (exact fin0 (by simp [cmpS, e]) rfl) | (refine ⟨by decide +kernel, ?_⟩; exact fin0 (by simp [cmpS, e]) rfl)
theorem names_r (s : Str) (hl : (bs s).length ≤ 1000) : Ct Tryz.prog 199 [str s] [] [] (bool (namesG [] (bs s))) [] := by
  refine Ct.of_body Tryz.func199 rfl mixed (by rw [Tryz.ntmps199]; simp) (CW.run 9999 400 rfl ?_)
  simp [Tryz.ntmps199, Tryz.results199]
  have hsz := size_bs s
  refine LoopW.inv mixed (Plain.retC _ _ _ _ _) rfl (ι := {p : Nat × Nat // (p.1 ≤ (bs s).length ∧ p.2 ≤ p.1 ∧ namesG (((bs s).drop p.2).take (p.1 - p.2)) ((bs s).drop p.1) = namesG [] (bs s)) ∨ (p.1 = (bs s).length + 1 ∧ p.2 ≤ p.1 ∧ namesG [] (bs s) = true)}) (fun k => [(0, str s), (3, int k.1.2), (4, int k.1.1)]) (fun k => []) 64 (fun k => (bs s).length + 1 - k.1.1) ⟨(0, 0), .inl (by simp)⟩ [] (by constructor <;> simp) ?_
  rintro ⟨⟨k, f⟩, hi⟩ B hB
  refine CW.run 9999 400 rfl ?_
  simp [hsz, Tryz.ntmps199, Tryz.results199]
  refine run_br_split (fun h1 => ?_) (fun h1 => ?_)
  · have hk : k ≤ (bs s).length := by have := of_decide_eq_true h1; omega
    have hi1 : k ≤ (bs s).length ∧ f ≤ k ∧ namesG (((bs s).drop f).take (k - f)) ((bs s).drop k) = namesG [] (bs s) := by
      rcases hi with hi | ⟨hi, _⟩
      · exact hi
      · simp only at hi; omega
    obtain ⟨_, hf, hi1⟩ := hi1
    have hw : IntKind.wrap .i64 ((k : Int) + 1) = k + 1 := wrap_i64 (by omega) (by omega)
    have hpc : bs (s.extract f k) = ((bs s).drop f).take (k - f) := by rw [bs_extract, List.drop_take]
    simp only [h1]
    simp [hsz, Tryz.ntmps199, Tryz.results199]
    refine run_gd_split (fun h2 => ?_) (fun h2 => ?_) <;> simp only [h2] <;> simp [hsz, Tryz.ntmps199, Tryz.results199]
    · have hkl : k = (bs s).length := by have := of_decide_eq_true h2; omega
      refine ⟨by omega, ?_⟩
      refine CW.callP (nameSane_r (s.extract f k)) Tryz.call183 rfl rfl rfl (by first | exact .inl rfl | exact .inr ⟨_, _, rfl, by simp⟩ | exact .inr ⟨_, _, rfl, by simp [*]⟩) rfl (by simp) rfl rfl (CW.runOps 9999 400 rfl ?_)
      simp [Tryz.ntmps199, Tryz.results199]
      rw [hkl, List.drop_length] at hi1
      rw [show nameB (s.extract f k) = namesG [] (bs s) by rw [← hi1, nameB, hpc, hkl]; rfl]
      refine run_br_split (fun h3 => ?_) (fun h3 => ?_) <;> simp only [h3] <;> simp [Tryz.ntmps199, Tryz.results199]
      · have h3' : namesG [] (bs s) = false := by simpa using h3
        first | (exact fin0 (by simp [h3']) rfl) | (refine ⟨by decide +kernel, ?_⟩; exact fin0 (by simp [h3']) rfl)
      · have h3' : namesG [] (bs s) = true := by simpa using h3
        refine hB _ ⟨(k + 1, k + 1), .inr ⟨by simp; omega, by simp, h3'⟩⟩ [] ?_ (by simp; omega)
        constructor <;> simp [hw]
    · have hkl : k < (bs s).length := by have := of_decide_eq_false h2; omega
      have hr : (bs s)[k]? = some (bs s)[k] := List.getElem?_eq_getElem hkl
      have hd : (bs s).drop k = (bs s)[k] :: (bs s).drop (k + 1) := List.drop_eq_getElem_cons hkl
      have ht : ((bs s).drop f).take (k + 1 - f) = ((bs s).drop f).take (k - f) ++ [(bs s)[k]] := by
        rw [show k + 1 - f = (k - f) + 1 by omega, List.take_add_one, List.getElem?_drop, show f + (k - f) = k by omega, hr]; rfl
      generalize (bs s)[k] = c at hr hd ht
      rw [hd, namesG] at hi1
      simp [get_bs, hr, Tryz.ntmps199, Tryz.results199]
      refine run_br_split (fun h3 => ?_) (fun h3 => ?_) <;> simp only [h3] <;> simp [hsz, Tryz.ntmps199, Tryz.results199]
      · have h3' : c = 46 := UInt8.toNat_inj.1 (by have := of_decide_eq_true h3; simp at this ⊢; omega)
        refine ⟨by omega, ?_⟩
        refine CW.callP (nameSane_r (s.extract f k)) Tryz.call183 rfl rfl rfl (by first | exact .inl rfl | exact .inr ⟨_, _, rfl, by simp⟩ | exact .inr ⟨_, _, rfl, by simp [*]⟩) rfl (by simp) rfl rfl (CW.runOps 9999 400 rfl ?_)
        simp [Tryz.ntmps199, Tryz.results199]
        rw [if_pos h3'] at hi1
        refine run_br_split (fun h4 => ?_) (fun h4 => ?_) <;> simp only [h4] <;> simp [Tryz.ntmps199, Tryz.results199]
        · have h4' : namesG [] (bs s) = false := by
            rw [← hi1]; simp [nameB, hpc] at h4; simp [h4]
          first | (exact fin0 (by simp [h4']) rfl) | (refine ⟨by decide +kernel, ?_⟩; exact fin0 (by simp [h4']) rfl)
        · have h4' : nameB (s.extract f k) = true := by simpa using h4
          rw [nameB, hpc] at h4'
          rw [h4', Bool.true_and] at hi1
          refine hB _ ⟨(k + 1, k + 1), .inl ⟨by simp; omega, by simp, by simpa using hi1⟩⟩ [] ?_ (by simp; omega)
          constructor <;> simp [hw]
      · have h3' : ¬ c = 46 := by
          intro e; subst e; simp at h3
        rw [if_neg h3'] at hi1
        refine hB _ ⟨(k + 1, f), .inl ⟨by simp; omega, by simp; omega, by simp only; rw [ht]; exact hi1⟩⟩ [] ?_ (by simp; omega)
        constructor <;> simp [hw]
  · have hi1 : namesG [] (bs s) = true := by
      have := of_decide_eq_false h1
      rcases hi with ⟨hi, _⟩ | ⟨_, _, hi⟩
      · simp only at hi; omega
      · exact hi
    simp only [h1]
    simp [Tryz.ntmps199, Tryz.results199]
    first | (exact fin0 (by simp [hi1]) rfl) | (refine ⟨by decide +kernel, ?_⟩; exact fin0 (by simp [hi1]) rfl)
end Go.Proofs.YtnmocaniljacpaaGreatDoor
end
section
namespace Go.Proofs.YtnmocaniljacpaaGreatDoor
open Go.AI Go.G
theorem host_r (s : Str) : Ct Tryz.prog 195 [str s] [] [] (bool (hostB s)) [] := by
  refine Ct.of_body Tryz.func195 rfl mixed (by rw [Tryz.ntmps195]; simp) (CW.run 9999 400 rfl ?_)
  simp [Tryz.ntmps195, Tryz.results195]
  have hsz := size_bs s
  refine run_br_split (fun h1 => ?_) (fun h1 => ?_) <;> simp only [h1] <;> simp [hsz, Tryz.ntmps195, Tryz.results195]
  · have hz : ¬ ((bs s).length ≤ 40) := by have := of_decide_eq_true h1; omega
    first | (exact fin0 (by simp [hostB, hz]) rfl) | (refine ⟨by decide +kernel, ?_⟩; exact fin0 (by simp [hostB, hz]) rfl)
  have hz : (bs s).length ≤ 40 := by have := of_decide_eq_false h1; omega
  refine run_gd_split (fun h2 => ?_) (fun h2 => ?_) <;> simp only [h2] <;> simp [Tryz.ntmps195, Tryz.results195]
  · have e : bs s = [42] := by rw [of_decide_eq_true h2]; rfl
    first | (exact fin0 (by simp [hostB, e]) rfl) | (refine ⟨by decide +kernel, ?_⟩; exact fin0 (by simp [hostB, e]) rfl)
  have e : ¬ bs s = [42] := by
    intro e; exact of_decide_eq_false h2 (bs_inj e)
  refine CW.callP (star_r s) Tryz.call198 rfl rfl rfl (by first | exact .inl rfl | exact .inr ⟨_, _, rfl, by simp⟩ | exact .inr ⟨_, _, rfl, by simp [*]⟩) rfl (by simp) rfl rfl (CW.runOps 9999 400 rfl ?_)
  simp [Tryz.ntmps195, Tryz.results195]
  refine run_gd_split (fun h3 => ?_) (fun h3 => ?_) <;> simp only [h3] <;> simp [Tryz.ntmps195, Tryz.results195]
  · have h3' : 2 ≤ (bs s).length := by simp [starL] at h3; exact h3.1
    refine ⟨by omega, ?_⟩
    have e2 : bs (s.extract 2 s.size) = (bs s).drop 2 := by rw [bs_extract, hsz, List.take_length]
    refine CW.callP (names_r (s.extract 2 s.size) (by rw [e2, List.length_drop]; omega)) Tryz.call199 rfl rfl rfl (by first | exact .inl rfl | exact .inr ⟨_, _, rfl, by simp⟩ | exact .inr ⟨_, _, rfl, by simp [*]⟩) rfl (by simp) rfl rfl (CW.runOps 9999 400 rfl ?_)
    simp [Tryz.ntmps195, Tryz.results195]
    rw [e2]
    refine run_gd_split (fun h4 => ?_) (fun h4 => ?_) <;> simp only [h4] <;> simp [Tryz.ntmps195, Tryz.results195]
    · first | (exact fin0 (by simp [hostB, hz, h3, h4]) rfl) | (refine ⟨by decide +kernel, ?_⟩; exact fin0 (by simp [hostB, hz, h3, h4]) rfl)
    refine CW.callP (names_r s (by omega)) Tryz.call199 rfl rfl rfl (by first | exact .inl rfl | exact .inr ⟨_, _, rfl, by simp⟩ | exact .inr ⟨_, _, rfl, by simp [*]⟩) rfl (by simp) rfl rfl (CW.runOps 9999 400 rfl ?_)
    simp [Tryz.ntmps195, Tryz.results195]
    first | (exact fin0 (by simp [hostB, hz, h3, h4, e]) rfl) | (refine ⟨by decide +kernel, ?_⟩; exact fin0 (by simp [hostB, hz, h3, h4, e]) rfl)
  refine CW.callP (names_r s (by omega)) Tryz.call199 rfl rfl rfl (by first | exact .inl rfl | exact .inr ⟨_, _, rfl, by simp⟩ | exact .inr ⟨_, _, rfl, by simp [*]⟩) rfl (by simp) rfl rfl (CW.runOps 9999 400 rfl ?_)
  simp [Tryz.ntmps195, Tryz.results195]
  first | (exact fin0 (by simp [hostB, hz, h3, e]) rfl) | (refine ⟨by decide +kernel, ?_⟩; exact fin0 (by simp [hostB, hz, h3, e]) rfl)
theorem strCmp (a b : Str) : Ct Tryz.prog 136 [str a, str b] [] [] (int (cmpS a b)) [] := Ct.pure (xs := [.string a, .string b]) (fun w => Tryz.strings_Compare a b w)
theorem cmp_p (a b : Str) : Ct Tryz.prog 100 [str a, str b] [] [] (int (cmpS a b)) [] := by
  refine Ct.of_body Tryz.func100 rfl mixed (by rw [Tryz.ntmps100]; simp) (CW.run 9999 400 rfl ?_)
  simp [Tryz.ntmps100, Tryz.results100]
  refine CW.callP (strCmp a b) Tryz.call136 rfl rfl rfl (by first | exact .inl rfl | exact .inr ⟨_, _, rfl, by simp⟩ | exact .inr ⟨_, _, rfl, by simp [*]⟩) rfl (by simp) rfl rfl (CW.runOps 9999 400 rfl ?_)
  simp [Tryz.ntmps100, Tryz.results100]
  first | (exact fin0 (by simp) rfl) | (refine ⟨by decide +kernel, ?_⟩; exact fin0 (by simp) rfl)
theorem lowP (c : Int) : Ct Tryz.prog 124 [.d (.v (.int .i32 c))] [] [] (bool (lowI c)) [] := by
  refine Ct.of_body Tryz.func124 rfl mixed (by rw [Tryz.ntmps124]; simp) (CW.run 9999 400 rfl ?_)
  simp [Tryz.ntmps124, Tryz.results124]
  repeat' first
    | (refine run_gd_split (fun h => ?_) (fun h => ?_) <;> simp only [h] <;> simp [h, Tryz.ntmps124, Tryz.results124])
    | (refine run_br_split (fun h => ?_) (fun h => ?_) <;> simp only [h] <;> simp [h, Tryz.ntmps124, Tryz.results124])
    | (refine ⟨(show DrawSide _ _ from by decide +kernel), ?_⟩)
  all_goals exact fin0 (by simp [*, lowI]) rfl
theorem plainP (c : Int) : Ct Tryz.prog 123 [.d (.v (.int .i32 c))] [] [] (bool (plainI c)) [] := by
  refine Ct.of_body Tryz.func123 rfl mixed (by rw [Tryz.ntmps123]; simp) (CW.run 9999 400 rfl ?_)
  simp [Tryz.ntmps123, Tryz.results123]
  refine CW.callP (lowP c) Tryz.call124 rfl rfl rfl (by first | exact .inl rfl | exact .inr ⟨_, _, rfl, by simp⟩ | exact .inr ⟨_, _, rfl, by simp [*]⟩) rfl (by simp) rfl rfl (CW.runOps 9999 400 rfl ?_)
  simp [Tryz.ntmps123, Tryz.results123]
  repeat' first
    | (refine run_gd_split (fun h => ?_) (fun h => ?_) <;> simp only [h] <;> simp [h, Tryz.ntmps123, Tryz.results123])
    | (refine run_br_split (fun h => ?_) (fun h => ?_) <;> simp only [h] <;> simp [h, Tryz.ntmps123, Tryz.results123])
    | (refine ⟨(show DrawSide _ _ from by decide +kernel), ?_⟩)
  all_goals exact fin0 (by simp [*, plainI]) rfl
theorem hasPrefix (s p : Str) : Ct Tryz.prog 192 [str s, str p] [] [] (bool (decide ((bs p).length ≤ (bs s).length) && decide ((bs s).take (bs p).length = bs p))) [] := by
  refine Ct.of_body Tryz.func192 rfl mixed (by rw [Tryz.ntmps192]; simp) (CW.run 9999 400 rfl ?_)
  simp [Tryz.ntmps192, Tryz.results192]
  have hs := size_bs s
  have hp := size_bs p
  refine run_gd_split (fun h1 => ?_) (fun h1 => ?_) <;> simp only [h1] <;> simp [hs, hp, Tryz.ntmps192, Tryz.results192]
  · have h1' : (bs p).length ≤ (bs s).length := by have := of_decide_eq_true h1; omega
    refine ⟨by omega, ?_⟩
    first | (exact fin0 (by simp [h1', str_eq, bs_extract]) rfl) | (refine ⟨by decide +kernel, ?_⟩; exact fin0 (by simp [h1', str_eq, bs_extract]) rfl)
  · have h1' : ¬ (bs p).length ≤ (bs s).length := by have := of_decide_eq_false h1; omega
    first | (exact fin0 (by simp [h1']) rfl) | (refine ⟨by decide +kernel, ?_⟩; exact fin0 (by simp [h1']) rfl)
theorem nameSane_p (s : Str) : Ct Tryz.prog 93 [str s] [] [] (bool (nameB s)) [] := by
  refine Ct.of_body Tryz.func93 rfl mixed (by rw [Tryz.ntmps93]; simp) (CW.run 9999 400 rfl ?_)
  simp [Tryz.ntmps93, Tryz.results93]
  have hsz := size_bs s
  refine run_br_split (fun h1 => ?_) (fun h1 => ?_) <;> simp only [h1] <;> simp [hsz, Tryz.ntmps93, Tryz.results93]
  · have hz : ¬ ((bs s).length ≤ 12) := by have := of_decide_eq_true h1; omega
    first | (exact fin0 (by simp [nameB, saneL, hz]) rfl) | (refine ⟨by decide +kernel, ?_⟩; exact fin0 (by simp [nameB, saneL, hz]) rfl)
  have hz : (bs s).length ≤ 12 := by have := of_decide_eq_false h1; omega
  refine LoopW.inv mixed (Plain.retC _ _ _ _ _) rfl (ι := {k : Nat // k ≤ (bs s).length ∧ ((bs s).take k).all partB = true ∧ (1 ≤ k → lowB ((bs s).headD 0) = true)}) (fun k => [(0, str s), (9, .own 64)]) (fun k => [(64, .iter s k.1)]) 65 (fun k => (bs s).length - k.1) ⟨0, by omega, by simp, by omega⟩ [] (by constructor <;> simp) ?_
  rintro ⟨k, hk1, hi, hl⟩ B hB
  by_cases hk : k < (bs s).length
  · have hr : (bs s)[k]? = some (bs s)[k] := List.getElem?_eq_getElem hk
    have hm : (bs s)[k] ∈ (bs s) := List.getElem_mem hk
    have ht : (bs s).take (k + 1) = (bs s).take k ++ [(bs s)[k]] := by rw [List.take_add_one, hr]; rfl
    have h0 : k = 0 → (bs s).headD 0 = (bs s)[k] := by
      intro e
      simp only [e, List.headD_eq_head?_getD, List.head?_eq_getElem?]
      rw [List.getElem?_eq_getElem (by omega)]; rfl
    generalize (bs s)[k] = c at hr hm ht h0
    by_cases hc : c.toNat < 128
    · refine CW.run 9999 400 rfl ?_
      simp [hsz, hk, decode_lo hr hc, Tryz.ntmps93, Tryz.results93]
      refine CW.callP (plainP c.toNat) Tryz.call123 rfl rfl rfl (by first | exact .inl rfl | exact .inr ⟨_, _, rfl, by simp⟩ | exact .inr ⟨_, _, rfl, by simp [*]⟩) rfl (by simp) rfl rfl (CW.runOps 9999 400 rfl ?_)
      simp [Tryz.ntmps93, Tryz.results93]
      refine run_gd_split (fun h2 => ?_) (fun h2 => ?_) <;> simp only [h2] <;> simp [Tryz.ntmps93, Tryz.results93]
      · have h2' : (bs s).all partB = false := by
          rw [List.all_eq_false]; exact ⟨c, hm, by simpa using h2⟩
        first | (exact fin0 (by simp [nameB, saneL, h2']) rfl) | (refine ⟨by decide +kernel, ?_⟩; exact fin0 (by simp [nameB, saneL, h2']) rfl)
      have h2' : partB c = true := by simpa using h2
      refine run_gd_split (fun h3 => ?_) (fun h3 => ?_) <;> simp only [h3] <;> simp [Tryz.ntmps93, Tryz.results93]
      · have hk0 : k = 0 := by have := of_decide_eq_true h3; omega
        refine CW.callP (lowP c.toNat) Tryz.call124 rfl rfl rfl (by first | exact .inl rfl | exact .inr ⟨_, _, rfl, by simp⟩ | exact .inr ⟨_, _, rfl, by simp [*]⟩) rfl (by simp) rfl rfl (CW.runOps 9999 400 rfl ?_)
        simp [Tryz.ntmps93, Tryz.results93]
        refine run_br_split (fun h4 => ?_) (fun h4 => ?_) <;> simp only [h4] <;> simp [Tryz.ntmps93, Tryz.results93]
        · have h4' : lowB c = false := by simpa using h4
          have h5 : (bs s).head?.getD 0 = c := by rw [← List.headD_eq_head?_getD]; exact h0 hk0
          first | (exact fin0 (by simp [nameB, saneL, h5, h4']) rfl) | (refine ⟨by decide +kernel, ?_⟩; exact fin0 (by simp [nameB, saneL, h5, h4']) rfl)
        · have h4' : lowB c = true := by simpa using h4
          refine hB _ ⟨k + 1, by omega, by simp [ht, hi, h2'], fun _ => by rw [h0 hk0]; exact h4'⟩ [] ?_ (by simp; omega)
          constructor <;> simp
      · have hk0 : 1 ≤ k := by have := of_decide_eq_false h3; omega
        refine hB _ ⟨k + 1, by omega, by simp [ht, hi, h2'], fun _ => hl hk0⟩ [] ?_ (by simp; omega)
        constructor <;> simp
    · have hu := decode_hi hr (by omega)
      have hv : partB c = false := by
        cases hv : partB c
        · rfl
        · exact absurd (part_lt hv) hc
      have h2' : (bs s).all partB = false := by
        rw [List.all_eq_false]; exact ⟨c, hm, by simp [hv]⟩
      refine CW.run 9999 400 rfl ?_
      simp [hsz, hk, Tryz.ntmps93, Tryz.results93]
      refine CW.callP (plainP (Utf8.decode s k).1) Tryz.call123 rfl rfl rfl (by first | exact .inl rfl | exact .inr ⟨_, _, rfl, by simp⟩ | exact .inr ⟨_, _, rfl, by simp [*]⟩) rfl (by simp) rfl rfl (CW.runOps 9999 400 rfl ?_)
      simp [Tryz.ntmps93, Tryz.results93]
      rw [plainI_hi hu]
      simp [Tryz.ntmps93, Tryz.results93]
      first | (exact fin0 (by simp [nameB, saneL, h2']) rfl) | (refine ⟨by decide +kernel, ?_⟩; exact fin0 (by simp [nameB, saneL, h2']) rfl)
  · have hkl : k = (bs s).length := by omega
    rw [hkl, List.take_length] at hi
    refine CW.run 9999 400 rfl ?_
    simp [hsz, hk, hkl, Tryz.ntmps93, Tryz.results93]
    cases hb : bs s with
    | nil =>
      have e : s = ⟨#[]⟩ := bs_inj (by rw [hb]; rfl)
      subst e
      first | (exact fin0 (by simp [nameB, saneL, hb]) rfl) | (refine ⟨by decide +kernel, ?_⟩; exact fin0 (by simp [nameB, saneL, hb]) rfl)
    | cons a l =>
      have hne : ¬ s = ⟨#[]⟩ := by
        intro e; subst e; cases hb
      have e : nameB s = true := by
        have h5 := hl (by rw [hkl, hb]; simp)
        have h6 : 1 ≤ (bs s).length := by rw [hb]; simp
        simp only [nameB, saneL, hi, hz, h5, h6, decide_true, Bool.true_and]
      first | (exact fin0 (by simp [e, hne]) rfl) | (refine ⟨by decide +kernel, ?_⟩; exact fin0 (by simp [e, hne]) rfl)
theorem hasPrefix' (s p : Str) : Ct Tryz.prog 180 [str s, str p] [] [] (bool (decide ((bs p).length ≤ (bs s).length) && decide ((bs s).take (bs p).length = bs p))) [] := by
  refine Ct.of_body Tryz.func180 rfl mixed (by rw [Tryz.ntmps180]; simp) (CW.run 9999 400 rfl ?_)
  simp [Tryz.ntmps180, Tryz.results180]
  refine CW.callP (hasPrefix s p) Tryz.call192 rfl rfl rfl (by first | exact .inl rfl | exact .inr ⟨_, _, rfl, by simp⟩ | exact .inr ⟨_, _, rfl, by simp [*]⟩) rfl (by simp) rfl rfl (CW.runOps 9999 400 rfl ?_)
  simp [Tryz.ntmps180, Tryz.results180]
  first | (exact fin0 (by simp) rfl) | (refine ⟨by decide +kernel, ?_⟩; exact fin0 (by simp) rfl)
def trimP (s p : Str) : Str := if (decide ((bs p).length ≤ (bs s).length) && decide ((bs s).take (bs p).length = bs p)) = true then s.extract (bs p).length s.size else s
theorem trimPrefix (s p : Str) : Ct Tryz.prog 191 [str s, str p] [] [] (str (trimP s p)) [] := by
  refine Ct.of_body Tryz.func191 rfl mixed (by rw [Tryz.ntmps191]; simp) (CW.run 9999 400 rfl ?_)
  simp [Tryz.ntmps191, Tryz.results191]
  have hs := size_bs s
  have hp := size_bs p
  refine CW.callP (hasPrefix s p) Tryz.call192 rfl rfl rfl (by first | exact .inl rfl | exact .inr ⟨_, _, rfl, by simp⟩ | exact .inr ⟨_, _, rfl, by simp [*]⟩) rfl (by simp) rfl rfl (CW.runOps 9999 400 rfl ?_)
  simp [Tryz.ntmps191, Tryz.results191]
  generalize hq : (decide ((bs p).length ≤ (bs s).length) && decide ((bs s).take (bs p).length = bs p)) = q
  refine run_br_split (fun h1 => ?_) (fun h1 => ?_) <;> simp only [h1] <;> simp [hs, hp, Tryz.ntmps191, Tryz.results191]
  · have h1' : (bs p).length ≤ (bs s).length := by
      rw [h1, Bool.and_eq_true] at hq; exact of_decide_eq_true hq.1
    refine ⟨by omega, ?_⟩
    first | (exact fin0 (by simp [trimP, hq, h1, hs]) rfl) | (refine ⟨by decide +kernel, ?_⟩; exact fin0 (by simp [trimP, hq, h1, hs]) rfl)
  · first | (exact fin0 (by simp [trimP, hq, h1]) rfl) | (refine ⟨by decide +kernel, ?_⟩; exact fin0 (by simp [trimP, hq, h1]) rfl)
theorem trimPrefix' (s p : Str) : Ct Tryz.prog 179 [str s, str p] [] [] (str (trimP s p)) [] := by
  refine Ct.of_body Tryz.func179 rfl mixed (by rw [Tryz.ntmps179]; simp) (CW.run 9999 400 rfl ?_)
  simp [Tryz.ntmps179, Tryz.results179]
  refine CW.callP (trimPrefix s p) Tryz.call191 rfl rfl rfl (by first | exact .inl rfl | exact .inr ⟨_, _, rfl, by simp⟩ | exact .inr ⟨_, _, rfl, by simp [*]⟩) rfl (by simp) rfl rfl (CW.runOps 9999 400 rfl ?_)
  simp [Tryz.ntmps179, Tryz.results179]
  first | (exact fin0 (by simp) rfl) | (refine ⟨by decide +kernel, ?_⟩; exact fin0 (by simp) rfl)
theorem path_p (s : Str) : Ct Tryz.prog 161 [str s] [] [] (bool (pathB s)) [] := by
  refine Ct.of_body Tryz.func161 rfl mixed (by rw [Tryz.ntmps161]; simp) (CW.run 9999 400 rfl ?_)
  simp [Tryz.ntmps161, Tryz.results161]
  have hsz := size_bs s
  refine LoopW.inv mixed (Plain.retC _ _ _ _ _) rfl (ι := {k : Nat // k ≤ (bs s).length ∧ ((bs s).take k).all slB = true}) (fun k => [(0, str s), (6, .own 64)]) (fun k => [(64, .iter s k.1)]) 65 (fun k => (bs s).length - k.1) ⟨0, by omega, by simp⟩ [] (by constructor <;> simp) ?_
  rintro ⟨k, hk1, hi⟩ B hB
  by_cases hk : k < (bs s).length
  · have hr : (bs s)[k]? = some (bs s)[k] := List.getElem?_eq_getElem hk
    have hm : (bs s)[k] ∈ (bs s) := List.getElem_mem hk
    have ht : (bs s).take (k + 1) = (bs s).take k ++ [(bs s)[k]] := by rw [List.take_add_one, hr]; rfl
    generalize (bs s)[k] = c at hr hm ht
    by_cases hc : c.toNat < 128
    · refine CW.run 9999 400 rfl ?_
      simp [hsz, hk, decode_lo hr hc, Tryz.ntmps161, Tryz.results161]
      refine CW.callP (plainP c.toNat) Tryz.call123 rfl rfl rfl (by first | exact .inl rfl | exact .inr ⟨_, _, rfl, by simp⟩ | exact .inr ⟨_, _, rfl, by simp [*]⟩) rfl (by simp) rfl rfl (CW.runOps 9999 400 rfl ?_)
      simp [Tryz.ntmps161, Tryz.results161]
      refine run_gd_split (fun h2 => ?_) (fun h2 => ?_) <;> simp only [h2] <;> simp [Tryz.ntmps161, Tryz.results161]
      · refine run_br_split (fun h3 => ?_) (fun h3 => ?_) <;> simp only [h3] <;> simp [Tryz.ntmps161, Tryz.results161]
        · have h2' : (bs s).all slB = false := by
            rw [List.all_eq_false]; exact ⟨c, hm, by simp [slB] at h2 h3 ⊢; exact ⟨h2, by omega⟩⟩
          first | (exact fin0 (by simp [pathB, h2']) rfl) | (refine ⟨by decide +kernel, ?_⟩; exact fin0 (by simp [pathB, h2']) rfl)
        · have h2' : slB c = true := by simp [slB] at h2 h3 ⊢; exact .inr (by omega)
          refine hB _ ⟨k + 1, by omega, by simp [ht, hi, h2']⟩ [] ?_ (by simp; omega)
          constructor <;> simp
      · have h2' : slB c = true := by simp [slB] at h2 ⊢; exact .inl h2
        refine hB _ ⟨k + 1, by omega, by simp [ht, hi, h2']⟩ [] ?_ (by simp; omega)
        constructor <;> simp
    · have hu := decode_hi hr (by omega)
      have hv : slB c = false := by
        cases hv : partB c
        · simp [slB, hv]; omega
        · exact absurd (part_lt hv) hc
      have h2' : (bs s).all slB = false := by
        rw [List.all_eq_false]; exact ⟨c, hm, by simp [hv]⟩
      have hn : ¬ ((Utf8.decode s k).1 : Int) = 47 := by omega
      refine CW.run 9999 400 rfl ?_
      simp [hsz, hk, Tryz.ntmps161, Tryz.results161]
      refine CW.callP (plainP (Utf8.decode s k).1) Tryz.call123 rfl rfl rfl (by first | exact .inl rfl | exact .inr ⟨_, _, rfl, by simp⟩ | exact .inr ⟨_, _, rfl, by simp [*]⟩) rfl (by simp) rfl rfl (CW.runOps 9999 400 rfl ?_)
      simp [Tryz.ntmps161, Tryz.results161]
      rw [plainI_hi hu]
      simp [hn, Tryz.ntmps161, Tryz.results161]
      first | (exact fin0 (by simp [pathB, h2']) rfl) | (refine ⟨by decide +kernel, ?_⟩; exact fin0 (by simp [pathB, h2']) rfl)
  · have hkl : k = (bs s).length := by omega
    rw [hkl, List.take_length] at hi
    refine CW.run 9999 400 rfl ?_
    simp [hsz, hk, hkl, Tryz.ntmps161, Tryz.results161]
    refine run_gd_split (fun h1 => ?_) (fun h1 => ?_) <;> simp only [h1] <;> simp [Tryz.ntmps161, Tryz.results161]
    · refine CW.callP (hasPrefix' s ⟨#[47]⟩) Tryz.call180 rfl rfl rfl (by first | exact .inl rfl | exact .inr ⟨_, _, rfl, by simp⟩ | exact .inr ⟨_, _, rfl, by simp [*]⟩) rfl (by simp) rfl rfl (CW.runOps 9999 400 rfl ?_)
      simp [Tryz.ntmps161, Tryz.results161]
      have hz : (bs s).length ≤ 40 := by have := of_decide_eq_true h1; omega
      have e : pathB s = (decide ((bs ⟨#[47]⟩).length ≤ (bs s).length) && decide ((bs s).take (bs ⟨#[47]⟩).length = bs ⟨#[47]⟩)) := by
        rw [show bs ⟨#[47]⟩ = [47] from rfl]
        simp only [pathB, hi, hz]
        cases hb : bs s with
        | nil => rfl
        | cons a l => simp [← UInt8.toNat_inj]
      first | (exact fin0 (by simp [e]) rfl) | (refine ⟨by decide +kernel, ?_⟩; exact fin0 (by simp [e]) rfl)
    · have hz : ¬ ((bs s).length ≤ 40) := by have := of_decide_eq_false h1; omega
      first | (exact fin0 (by simp [pathB, hz]) rfl) | (refine ⟨by decide +kernel, ?_⟩; exact fin0 (by simp [pathB, hz]) rfl)
end Go.Proofs.YtnmocaniljacpaaGreatDoor
end
section
open Go.RowKit Go.Shelf
namespace Go.Proofs.YtnmocaniljacpaaGreatDoor
open Go.AI Go.G
attribute [local go_sem] Oper.semAt_some
theorem splitSeq_k (s p : Str) (n : Int) (w : World) : Calls Tryz.prog 197 #[.string s, .string p, .int .i64 n] w fun e w' => e = .returned (.func (.func 200) #[] #[.pointer (some ⟨w.heap.size + 1, 0, none⟩), .pointer (some ⟨w.heap.size, 0, none⟩), .pointer (some ⟨w.heap.size + 2, 0, none⟩)]) ∧ w' = ((w.alloc (.cells #[.string s] 9)).alloc (.cells #[.string p] 9)).alloc (.cells #[.int .i64 n] 3) := by
  go_enter Tryz.func197, Tryz.ntmps197
  go_wp2
  go_ret
  exact ⟨rfl, rfl⟩
theorem SplitSeq_k (s p : Str) (w : World) : Calls Tryz.prog 190 #[.string s, .string p] w fun e w' => e = .returned (.func (.func 200) #[] #[.pointer (some ⟨w.heap.size + 1, 0, none⟩), .pointer (some ⟨w.heap.size, 0, none⟩), .pointer (some ⟨w.heap.size + 2, 0, none⟩)]) ∧ w' = ((w.alloc (.cells #[.string s] 9)).alloc (.cells #[.string p] 9)).alloc (.cells #[.int .i64 0] 3) := by
  go_enter Tryz.func190, Tryz.ntmps190
  go_wp2_with (go_at_call 197; refine (splitSeq_k _ _ _ _).mono ?_; rintro e w' ⟨rfl, rfl⟩)
  go_ret
  exact ⟨rfl, rfl⟩
/-- What lies where while the texts come. -/
structure NmAt (w : World) (rest : Str) (lp : Loop) (W : World) : Prop where
  b0 : W.heap[w.heap.size]? = some (.cells #[.bool false] 4 (0, 0))
  b1 : W.heap[w.heap.size + 1]? = some (.cells #[.string rest] 9 (0, 0))
  b2 : W.heap[w.heap.size + 2]? = some (.cells #[.string ⟨#[46]⟩] 9 (0, 0))
  b3 : W.heap[w.heap.size + 3]? = some (.cells #[.int .i64 0] 3 (0, 0))
  b4 : W.heap[w.heap.size + 4]? = some (.deferred (some []))
  b5 : W.heap[w.heap.size + 5]? = some (.loop lp)
  below : Below w.heap.size w W
  dr : w.drawn ≤ W.drawn
theorem box_cell {W : World} {B : Nat} {v : Value} {t : TypeId} (h : W.heap[B]? = some (.cells #[v] t (0, 0))) : W.cell? ⟨B, 0, none⟩ = some v ∧ W.frozen? ⟨B, 0, none⟩ = false := by
  constructor <;> simp [World.cell?, World.frozen?, h]
theorem box_set {W : World} {B : Nat} {v : Value} {t : TypeId} (h : W.heap[B]? = some (.cells #[v] t (0, 0))) (x : Value) : (W.setCell ⟨B, 0, none⟩ x).heap[B]? = some (.cells #[x] t (0, 0)) := by
  obtain ⟨hlt, hk⟩ := Array.getElem?_eq_some_iff.1 h
  show (W.heap.modify B _)[B]? = _
  rw [Array.getElem?_eq_getElem (by rw [Array.size_modify]; exact hlt), Array.getElem_modify_self, hk]
  rfl
theorem box_other {W : World} {B k : Nat} (x : Value) (h : k ≠ B) : (W.setCell ⟨B, 0, none⟩ x).heap[k]? = W.heap[k]? := Below.heap_setCell W ⟨B, 0, none⟩ x k h
section
variable {w W W' : World} {rest : Str} {lp : Loop}
theorem NmAt.lt (h : NmAt w rest lp W) : w.heap.size + 5 < W.heap.size := (Array.getElem?_eq_some_iff.1 h.b5).1
theorem NmAt.grow (h : NmAt w rest lp W) (hb : Below W.heap.size W W') (hd : W.drawn ≤ W'.drawn) : NmAt w rest lp W' := by
  have := h.lt
  exact ⟨(hb.block _ (by omega)).trans h.b0, (hb.block _ (by omega)).trans h.b1, (hb.block _ (by omega)).trans h.b2, (hb.block _ (by omega)).trans h.b3, (hb.block _ (by omega)).trans h.b4, (hb.block _ (by omega)).trans h.b5, h.below.trans (hb.mono h.below.size), Nat.le_trans h.dr hd⟩
theorem NmAt.set1 (h : NmAt w rest lp W) (r : Str) : NmAt w r lp (W.setCell ⟨w.heap.size + 1, 0, none⟩ (.string r)) :=
  ⟨(box_other _ (by omega)).trans h.b0, box_set h.b1 _, (box_other _ (by omega)).trans h.b2, (box_other _ (by omega)).trans h.b3, (box_other _ (by omega)).trans h.b4, (box_other _ (by omega)).trans h.b5, h.below.setCell (p := ⟨w.heap.size + 1, 0, none⟩) (by simp) _, h.dr⟩
theorem NmAt.set0 (h : NmAt w rest lp W) : NmAt w rest lp (W.setCell ⟨w.heap.size, 0, none⟩ (.bool false)) :=
  ⟨box_set h.b0 _, (box_other _ (by omega)).trans h.b1, (box_other _ (by omega)).trans h.b2, (box_other _ (by omega)).trans h.b3, (box_other _ (by omega)).trans h.b4, (box_other _ (by omega)).trans h.b5, h.below.setCell (p := ⟨w.heap.size, 0, none⟩) (by simp) _, h.dr⟩
theorem Below.put {B l : Nat} {w W : World} (h : Below B w W) (o : Obj) (hl : B ≤ l) : Below B w (W.putObj l o) :=
  ⟨h.os, h.tape, h.output, by simpa using h.size, fun k hk => (World.putObj_heap_other (by omega)).trans (h.block k hk)⟩
theorem NmAt.put (h : NmAt w rest lp W) (lq : Loop) : NmAt w rest lq (W.putObj (w.heap.size + 5) (.loop lq)) :=
  ⟨(World.putObj_heap_other (by omega)).trans h.b0, (World.putObj_heap_other (by omega)).trans h.b1, (World.putObj_heap_other (by omega)).trans h.b2, (World.putObj_heap_other (by omega)).trans h.b3, (World.putObj_heap_other (by omega)).trans h.b4, World.putObj_heap_same h.lt, Below.put h.below _ (by omega), h.dr⟩
end
end Go.Proofs.YtnmocaniljacpaaGreatDoor
end
section
namespace Go.G
open Go.AI
theorem namesG_split : ∀ (l p : List UInt8) (i : Int), Lib.indexByte l 46 = i → (i < 0 → namesG p l = saneL (p ++ l)) ∧ (0 ≤ i → namesG p l = (saneL (p ++ l.take i.toNat) && namesG [] (l.drop (i.toNat + 1))))
  | [], p, i, h => by
    simp [Lib.indexByte] at h; subst h; simp [namesG]
  | c :: l, p, i, h => by
    simp only [Lib.indexByte] at h
    by_cases hc : c = 46
    · subst hc
      simp at h; subst h
      simp [namesG]
    · have hc' : (c == 46) = false := by simpa using hc
      have ih := namesG_split l (p ++ [c]) (Lib.indexByte l 46) rfl
      have h1 := Lib.indexByte_ge l 46
      simp only [hc'] at h
      by_cases h2 : Lib.indexByte l 46 < 0
      · have e : Lib.indexByte l 46 = -1 := by omega
        rw [e] at h
        have : i = -1 := by simpa using h.symm
        subst this
        exact ⟨fun _ => by rw [namesG, if_neg hc, ih.1 h2]; simp, fun h => by omega⟩
      · obtain ⟨k, hk⟩ : ∃ k : Nat, Lib.indexByte l 46 = k := ⟨(Lib.indexByte l 46).toNat, by omega⟩
        rw [hk] at h ih
        have e : i = ((k + 1 : Nat) : Int) := by
          have : ¬ (k : Int) < 0 := by omega
          simp [this] at h; omega
        subst e
        refine ⟨fun h => by omega, fun _ => ?_⟩
        rw [namesG, if_neg hc, ih.2 (by omega)]
        simp
end Go.G
open Go.RowKit Go.Shelf
namespace Go.Proofs.YtnmocaniljacpaaGreatDoor
open Go.AI Go.G
attribute [local go_sem] Oper.semAt_some
theorem below_of_post {σ σ' : Names} {I I' : Nat → Prop} {w w' : World} {nm : Nat} {m' : Mem} (hp : Post σ I w (lookB []) nm σ' I' w' m') : Below w.heap.size w w' :=
  ⟨hp.os, hp.tape, hp.output.eq, hp.size, fun k hk => hp.frame k hk (by rintro ⟨b, _, _, hb, _⟩; simp [lookB] at hb)⟩
theorem nameSane_k (s : Str) (w : World) : Calls Tryz.prog 93 #[.string s] w fun e w' => e = .returned (.bool (nameB s)) ∧ Below w.heap.size w w' ∧ w.drawn ≤ w'.drawn := by
  refine (nameSane_p s (fun _ => none) (fun n => n < w.heap.size) w [.string s] (fun _ h => h) rfl (fun i c x h1 h2 => ?_) ⟨fun b k hb => by simp [lookB] at hb, fun b b' k k' x x' n hb => by simp [lookB] at hb⟩ (fun _ _ => rfl)).mono ?_
  · match i with
    | 0 => simp at h1 h2; subst h1; subst h2; exact .d (.v _)
    | i + 1 => simp at h1
  · rintro e w' ⟨v, σ', I', rfl, hp, hv⟩
    cases hv with
    | d hd => cases hd with
      | v => exact ⟨rfl, below_of_post hp, hp.output.drawn⟩
def nmLeft (H : Nat) (W : World) : Nat := match W.cell? ⟨H + 1, 0, none⟩ with
  | some (.string s) => s.size
  | _ => 0
theorem nmLeft_eq {w W : World} {rest : Str} {r : Loop} (h : NmAt w rest r W) : nmLeft w.heap.size W = rest.size := by
  simp [nmLeft, (box_cell h.b1).1]
def NmY (w : World) (rest : Str) (r : Loop) (x : Str) (e : Ending) (W' : World) : Prop := (e = .returned (.bool true) ∧ nameB x = true ∧ NmAt w rest r W') ∨ (e = .returned (.bool false) ∧ nameB x = false ∧ ∃ q : Loop, q.state = .done ∧ q.pending = some .ret ∧ NmAt w rest q W')
abbrev NmOut (w : World) (r : Loop) (t : Bool) (W : World) : Prop := (t = true ∧ ∃ rest, NmAt w rest r W) ∨ (t = false ∧ ∃ rest, ∃ q : Loop, q.state = .done ∧ q.pending = some .ret ∧ NmAt w rest q W)
set_option maxRecDepth 100000 in
set_option maxHeartbeats 2000000 in
theorem nmIter (m : Nat) (hm : 1 ≤ m) (w : World) (s : Str) (r : Loop) (hs : (bs s).length ≤ 40)
    (hY : ∀ W rest x, NmAt w rest r W → YieldAt Fence.wide (m - 1) Tryz.prog (w.heap.size + 5) #[.string x] W (NmY w rest r x))
    (W : World) (h : NmAt w s r W) :
    CallsIn Fence.wide m Tryz.prog 200 #[.func (.yield (w.heap.size + 5)) #[] #[], .pointer (some ⟨w.heap.size + 2, 0, none⟩), .pointer (some ⟨w.heap.size + 1, 0, none⟩), .pointer (some ⟨w.heap.size + 3, 0, none⟩)] W fun e W' => (∃ v, e = .returned v) ∧ NmOut w r (namesG [] (bs s)) W' := by
  refine callsIn_of_wp Tryz.func200 rfl trivial ?_ rfl
  simp only [Tryz.ntmps200, List.size_toArray, List.length_cons, List.length_nil, Nat.reduceAdd, Nat.reduceSub, Array.replicate_succ, Array.replicate_zero, List.push_toArray, List.append_toArray, List.nil_append, List.cons_append]
  have c2 := (box_cell h.b2).1
  gi_wp2
  gi_loopw [7] (fun _ wr => ∃ rest, NmAt w rest r wr ∧ namesG [] (bs rest) = namesG [] (bs s) ∧ (bs rest).length ≤ 40) (fun _ wr => nmLeft w.heap.size wr)
  case atStart => exact ⟨s, h, rfl, hs⟩
  case round =>
    obtain ⟨rest, hr, hg, hl⟩ := hrel
    clear c2
    have d1 := (box_cell hr.b1).1
    have d2 := (box_cell hr.b2).1
    have d3 := (box_cell hr.b3).1
    have hsp := namesG_split (bs rest) [] _ rfl
    have hge := Lib.indexByte_ge (bs rest) 46
    have hsz := size_bs rest
    unfold bs at hsp hge
    by_cases hi : Lib.indexByte rest.data.toList 46 < 0
    · obtain ⟨f1, t1, a1, b1, hy1, hR1⟩ := hY wr rest rest hr
      gi_wp2_with (refine ⟨trivial, ?_⟩; gi_at_call 202; refine (callsIn_wide.2 (Tryz.strings_Index_one rest 46 _)).mono ?_; rintro e w' ⟨rfl, rfl⟩)
      refine hR1.mono ?_
      have e1 : namesG [] (bs s) = nameB rest := by rw [← hg]; exact hsp.1 hi
      rintro e W3 (⟨rfl, hn, h3⟩ | ⟨rfl, hn, q, hq1, hq2, hq⟩)
      · gi_wp2
        go_end0
        exact ⟨⟨_, rfl⟩, .inl ⟨e1.trans hn, rest, h3⟩⟩
      · gi_wp2
        go_end0
        exact ⟨⟨_, rfl⟩, .inr ⟨e1.trans hn, rest, q, hq1, hq2, hq⟩⟩
    · obtain ⟨k, hk⟩ : ∃ k : Nat, Lib.indexByte rest.data.toList 46 = k := ⟨(Lib.indexByte rest.data.toList 46).toNat, by omega⟩
      have hkl : k < rest.size := by
        rw [hsz]
        exact (List.getElem?_eq_some_iff.1 (Lib.indexByte_some hk).1).1
      have hidx : ∀ (j : Nat) (w : World), CallsIn Fence.wide j Tryz.prog 202 #[.string rest, .string ⟨#[46]⟩] w fun e w' => e = .returned (.int .i64 k) ∧ w' = w := by
        intro j w; rw [← hk]; exact callsIn_wide.2 (Tryz.strings_Index_one rest 46 _)
      have H1 := hsp.2 (by omega)
      rw [hk] at H1
      have H2 : namesG [] (bs s) = (nameB (rest.extract 0 k) && namesG [] (bs (rest.extract (k + 1) rest.size))) := by
        rw [← hg]
        refine H1.trans ?_
        rw [bs_extract, nameB, bs_extract, hsz, List.take_length]
        simp [bs]
      have H3 : (bs (rest.extract (k + 1) rest.size)).length ≤ 40 := by rw [bs_extract, hsz, List.take_length, List.length_drop]; omega
      have H4 : (rest.extract (k + 1) rest.size).size < rest.size := by simp; omega
      have H5 : rest.size ≤ 40 := by omega
      clear H1 hsp hge hsz hk hi
      obtain ⟨f1, t1, a1, b1, hy1, hR1⟩ := hY wr rest (rest.extract 0 k) hr
      gi_wp2_with (refine ⟨trivial, ?_⟩; gi_at_call 202; refine (hidx _ _).mono ?_; rintro e w' ⟨rfl, rfl⟩)
      refine hR1.mono ?_
      clear d1 d2 d3
      rintro e W3 (⟨rfl, hn, h3⟩ | ⟨rfl, hn, q, hq1, hq2, hq⟩)
      · obtain ⟨d1, d4⟩ := box_cell h3.b1
        have d2 := (box_cell h3.b2).1
        gi_wp2
        go_roundw
        case rel => exact ⟨rest.extract (k + 1) rest.size, h3.set1 _, by rw [H2, hn]; rfl, H3⟩
        case measure => rw [nmLeft_eq (h3.set1 _), nmLeft_eq hr]; exact H4
      · gi_wp2
        refine bodyPost_ret (results_none rfl _ _ _) rfl ?_
        exact ⟨⟨_, rfl⟩, .inr ⟨by rw [H2, hn]; rfl, rest, q, hq1, hq2, hq⟩⟩
set_option maxRecDepth 100000 in
set_option maxHeartbeats 2000000 in
theorem names_k (s : Str) (hs : (bs s).length ≤ 40) (w : World) : Calls Tryz.prog 178 #[.string s] w fun e w' => e = .returned (.bool (namesG [] (bs s))) ∧ Below w.heap.size w w' ∧ w.drawn ≤ w'.drawn := by
  refine (callsIn_wide (n := 4)).1 ?_
  refine callsIn_of_wp_marks Tryz.func178 rfl trivial ?_ rfl
  simp only [Tryz.ntmps178, List.size_toArray, List.length_cons, List.length_nil, Nat.reduceAdd, Nat.reduceSub, Array.replicate_succ, Array.replicate_zero, List.push_toArray, List.append_toArray, List.nil_append, List.cons_append]
  gi_wp2_with (refine ⟨trivial, ?_⟩; gi_at_call 190; refine (callsIn_wide.2 (SplitSeq_k _ _ _)).mono ?_; rintro e w' ⟨rfl, rfl⟩)
  obtain ⟨W0, hW0⟩ : ∃ W0, (((w.alloc (.cells #[.bool false] 4)).alloc (.cells #[.string s] 9)).alloc (.cells #[.string ⟨#[46]⟩] 9)).alloc (.cells #[.int .i64 0] 3) = W0 := ⟨_, rfl⟩
  have hs0 : W0.heap.size = w.heap.size + 4 := by rw [← hW0]; simp
  have k0 : W0.heap[w.heap.size]? = some (.cells #[.bool false] 4 (0, 0)) := by
    rw [← hW0]; exact (((Below.heap_alloc _ _ _ (by simp; omega)).trans (Below.heap_alloc _ _ _ (by simp; omega))).trans (Below.heap_alloc _ _ _ (by simp))).trans (World.alloc_heap_new w _)
  have k1 : W0.heap[w.heap.size + 1]? = some (.cells #[.string s] 9 (0, 0)) := by
    rw [← hW0]; refine ((Below.heap_alloc _ _ _ (by simp)).trans (Below.heap_alloc _ _ _ (by simp))).trans ?_
    have := World.alloc_heap_new (w.alloc (.cells #[.bool false] 4)) (.cells #[.string s] 9); rwa [World.size_alloc] at this
  have k2 : W0.heap[w.heap.size + 2]? = some (.cells #[.string ⟨#[46]⟩] 9 (0, 0)) := by
    rw [← hW0]; refine (Below.heap_alloc _ _ _ (by simp)).trans ?_
    have := World.alloc_heap_new ((w.alloc (.cells #[.bool false] 4)).alloc (.cells #[.string s] 9)) (.cells #[.string ⟨#[46]⟩] 9); rwa [World.size_alloc, World.size_alloc] at this
  have k3 : W0.heap[w.heap.size + 3]? = some (.cells #[.int .i64 0] 3 (0, 0)) := by
    rw [← hW0]
    have := World.alloc_heap_new (((w.alloc (.cells #[.bool false] 4)).alloc (.cells #[.string s] 9)).alloc (.cells #[.string ⟨#[46]⟩] 9)) (.cells #[.int .i64 0] 3); rwa [World.size_alloc, World.size_alloc, World.size_alloc] at this
  have kb : Below w.heap.size w W0 := by
    rw [← hW0]; exact ((((Below.refl _ w).alloc (Nat.le_refl _) _).alloc (by simp) _).alloc (by simp; omega) _).alloc (by simp; omega) _
  have kd : w.drawn ≤ W0.drawn := by rw [← hW0]; exact Nat.le_refl _
  rw [hW0]
  clear hW0
  refine rf_enter rfl (by omega) rfl trivial (enters_of Tryz.func200 (by kernel_rfl) rfl) ?_
  rintro fn hfn r hr
  rw [hs0] at hr ⊢
  have k5 : ((W0.alloc (.deferred (some []))).alloc (.loop r)).heap[w.heap.size + 5]? = some (.loop r) := by
    have := World.alloc_heap_new (W0.alloc (.deferred (some []))) (.loop r); rwa [World.size_alloc, hs0] at this
  have hold : ∀ k, k < w.heap.size + 4 → ((W0.alloc (.deferred (some []))).alloc (.loop r)).heap[k]? = W0.heap[k]? := fun k hk =>
    (Below.heap_alloc _ _ k (by simp; omega)).trans (Below.heap_alloc _ _ k (by omega))
  have k4 : ((W0.alloc (.deferred (some []))).alloc (.loop r)).heap[w.heap.size + 4]? = some (.deferred (some [])) := by
    refine (Below.heap_alloc _ _ _ (by simp; omega)).trans ?_
    have := World.alloc_heap_new W0 (.deferred (some [])); rwa [hs0] at this
  have hN : NmAt w s r ((W0.alloc (.deferred (some []))).alloc (.loop r)) :=
    ⟨(hold _ (by omega)).trans k0, (hold _ (by omega)).trans k1, (hold _ (by omega)).trans k2, (hold _ (by omega)).trans k3, k4, k5, (kb.alloc (by omega) _).alloc (by simp; omega) _, kd⟩
  have hY : ∀ W rest x, NmAt w rest r W → YieldAt Fence.wide (4 - 1 - 1) Tryz.prog (w.heap.size + 5) #[.string x] W (NmY w rest r x) := by
    intro W rest x h
    have hp := h.put { r with state := .busy }
    refine rf_yield h.b5 (by rw [hr]) (by rw [hr]; rfl) trivial { tmps := #[.string s, undef, .pointer (some ⟨w.heap.size, 0, none⟩), .string x, .string s, .func (.func 200) #[] #[.pointer (some ⟨w.heap.size + 1 + 1, 0, none⟩), .pointer (some ⟨w.heap.size + 1, 0, none⟩), .pointer (some ⟨w.heap.size + 1 + 2, 0, none⟩)], .string x, undef, undef, undef], defers := [] } W h.b5 ?_ ?_
    · intro K hK
      rw [hr]
      gi_wp2
      exact hK
    · generalize hWb : W.putObj (w.heap.size + 5) (.loop { r with state := .busy }) = Wb at hp
      have hbd := congrArg Loop.body hr
      have hrr : ∀ W3, NmAt w rest { r with state := .busy } W3 → NmAt w rest r (W3.putObj (w.heap.size + 5) (.loop { { r with state := .busy } with state := if (none : Option Code).isNone then .ready else .done, pending := none })) := fun W3 h3 => by
        have := h3.put r
        rw [hr] at this ⊢
        exact this
      dsimp only at hbd
      rw [hbd]
      clear hbd hr hs0 k0 k1 k2 k3 k4 k5 kb hold hN hWb h
      cases hv : nameB x with
      | true =>
        have hc : ∀ (j : Nat) (W : World), CallsIn (Fence.wide.inRound (w.heap.size + 5)) j Tryz.prog 93 #[.string x] W fun e w' => e = .returned (.bool true) ∧ Below W.heap.size W w' ∧ W.drawn ≤ w'.drawn := fun j W => by
          rw [← hv]; exact CallsIn.inRound _ (callsIn_wide.2 (nameSane_k x W))
        gi_wp2_with (refine ⟨trivial, ?_⟩; gi_at_call 93; refine (hc _ _).mono ?_; rintro e w' ⟨rfl, hB, hD⟩)
        exact ⟨none, rfl, _, (hp.grow hB hD).b5, .inl ⟨rfl, hv, hrr _ (hp.grow hB hD)⟩⟩
      | false =>
        have hc : ∀ (j : Nat) (W : World), CallsIn (Fence.wide.inRound (w.heap.size + 5)) j Tryz.prog 93 #[.string x] W fun e w' => e = .returned (.bool false) ∧ Below W.heap.size W w' ∧ W.drawn ≤ w'.drawn := fun j W => by
          rw [← hv]; exact CallsIn.inRound _ (callsIn_wide.2 (nameSane_k x W))
        have hc2 : ∀ (j : Nat), CallsIn (Fence.wide.inRound (w.heap.size + 5)) j Tryz.prog 93 #[.string x] Wb fun e w' => e = .returned (.bool false) ∧ NmAt w rest { r with state := .busy } w' ∧ w'.cell? ⟨w.heap.size, 0, none⟩ = some (.bool false) ∧ w'.frozen? ⟨w.heap.size, 0, none⟩ = false := fun j =>
          (hc j Wb).mono fun e w' ⟨h1, hB, hD⟩ => ⟨h1, hp.grow hB hD, (box_cell (hp.grow hB hD).b0).1, (box_cell (hp.grow hB hD).b0).2⟩
        gi_wp2_with (refine ⟨trivial, ?_⟩; gi_at_call 93; refine (hc2 _).mono ?_; rintro e w' ⟨rfl, hB, hB2, hB3⟩)
        exact ⟨some .ret, rfl, _, hB.set0.b5, .inr ⟨rfl, hv, _, rfl, rfl, hB.set0.put _⟩⟩
  refine (nmIter 3 (by omega) w s r hs hY _ hN).mono ?_
  clear hY hN hold k0 k1 k2 k3 k4 k5 kb
  rintro e W2 ⟨hv, hO⟩
  refine ⟨hv, ?_⟩
  have hend : ∀ (W3 : World) (q : Loop) (rest : Str), NmAt w rest q W3 → ∀ t : Bool, (Below w.heap.size w ((W3.setCell ⟨w.heap.size, 0, none⟩ (.bool t)).putObj (w.heap.size + 4) (.deferred none)) ∧ w.drawn ≤ ((W3.setCell ⟨w.heap.size, 0, none⟩ (.bool t)).putObj (w.heap.size + 4) (.deferred none)).drawn) ∧ ((W3.setCell ⟨w.heap.size, 0, none⟩ (.bool t)).putObj (w.heap.size + 4) (.deferred none)).cell? ⟨w.heap.size, 0, none⟩ = some (.bool t) ∧ (W3.setCell ⟨w.heap.size, 0, none⟩ (.bool t)).heap[w.heap.size + 4]? = some (.deferred (some [])) := fun W3 q rest h t =>
    ⟨⟨Below.put (h.below.setCell (p := ⟨w.heap.size, 0, none⟩) (by simp) _) _ (by omega), h.dr⟩, (World.cell?_of_block (World.putObj_heap_other (by show w.heap.size ≠ _; omega))).trans (box_cell (box_set h.b0 _)).1, (box_other _ (by omega)).trans h.b4⟩
  rcases hO with ⟨ht, rest, h⟩ | ⟨ht, rest, q, q1, q2, h⟩
  · refine ⟨r, h.b5, by rw [hr]; simp, ?_⟩
    rw [show r.pending = none by rw [hr]]
    have hp : NmAt w rest { r with state := .exhausted, pending := none } (W2.putObj (w.heap.size + 4 + 1) (.loop { r with state := .exhausted, pending := none })) := h.put _
    generalize W2.putObj (w.heap.size + 4 + 1) _ = W3 at hp ⊢
    obtain ⟨e1, e2⟩ := box_cell hp.b0
    obtain ⟨f1, f2, f3⟩ := hend W3 _ rest hp true
    clear hp h hr hs0 hend
    gi_wp2
    refine ⟨by simp, .inl ⟨_, _, rfl, run_takeDeferred f3, ?_⟩⟩
    exact ⟨_, by simp [results, Tryz.f178, go_sem, f2]; rfl, by rw [ht], f1⟩
  · refine ⟨q, h.b5, by rw [q1]; simp, ?_⟩
    rw [q2]
    have hp : NmAt w rest { q with state := .exhausted, pending := some .ret } (W2.putObj (w.heap.size + 4 + 1) (.loop { q with state := .exhausted, pending := some .ret })) := h.put _
    generalize W2.putObj (w.heap.size + 4 + 1) _ = W3 at hp ⊢
    have f1 : Below w.heap.size w (W3.putObj (w.heap.size + 4) (.deferred none)) ∧ w.drawn ≤ (W3.putObj (w.heap.size + 4) (.deferred none)).drawn := ⟨Below.put hp.below (.deferred none) (l := w.heap.size + 4) (by omega), hp.dr⟩
    have f2 : (W3.putObj (w.heap.size + 4) (.deferred none)).cell? ⟨w.heap.size, 0, none⟩ = some (.bool false) := (World.cell?_of_block (World.putObj_heap_other (by show w.heap.size ≠ _; omega))).trans (box_cell hp.b0).1
    have f3 := hp.b4
    clear hp h hr hs0 hend
    gi_wp2
    refine ⟨by simp, .inl ⟨_, _, rfl, run_takeDeferred f3, ?_⟩⟩
    exact ⟨_, by simp [results, Tryz.f178, go_sem, f2]; rfl, by rw [ht], f1⟩
theorem names_p (s : Str) (hl : (bs s).length ≤ 40) : Ct Tryz.prog 178 [str s] [] [] (bool (namesG [] (bs s))) [] := Ct.grow (xs := [.string s]) (fun w => names_k s hl w)
end Go.Proofs.YtnmocaniljacpaaGreatDoor
end
section
namespace Go.Proofs.YtnmocaniljacpaaGreatDoor
open Go.AI Go.G
theorem host_p (s : Str) : Ct Tryz.prog 160 [str s] [] [] (bool (hostB s)) [] := by
  refine Ct.of_body Tryz.func160 rfl mixed (by rw [Tryz.ntmps160]; simp) (CW.run 9999 400 rfl ?_)
  simp [Tryz.ntmps160, Tryz.results160]
  have hsz := size_bs s
  refine run_gd_split (fun h1 => ?_) (fun h1 => ?_) <;> simp only [h1] <;> simp [hsz, Tryz.ntmps160, Tryz.results160]
  · have hz : (bs s).length ≤ 40 := by have := of_decide_eq_true h1; omega
    refine run_gd_split (fun h2 => ?_) (fun h2 => ?_) <;> simp only [h2] <;> simp [Tryz.ntmps160, Tryz.results160]
    · have e : bs s = [42] := by rw [of_decide_eq_true h2]; rfl
      first | (exact fin0 (by simp [hostB, e]) rfl) | (refine ⟨by decide +kernel, ?_⟩; exact fin0 (by simp [hostB, e]) rfl)
    have e : ¬ bs s = [42] := by
      intro e; exact of_decide_eq_false h2 (bs_inj e)
    refine CW.callP (trimPrefix' s ⟨#[42, 46]⟩) Tryz.call179 rfl rfl rfl (by first | exact .inl rfl | exact .inr ⟨_, _, rfl, by simp⟩ | exact .inr ⟨_, _, rfl, by simp [*]⟩) rfl (by simp) rfl rfl (CW.runOps 9999 400 rfl ?_)
    simp [Tryz.ntmps160, Tryz.results160]
    have e2 : bs (trimP s ⟨#[42, 46]⟩) = if starL (bs s) then (bs s).drop 2 else bs s := by
      unfold trimP starL
      rw [show bs ⟨#[42, 46]⟩ = [42, 46] from rfl]
      simp only [List.length_cons, List.length_nil]
      split
      · rw [bs_extract, hsz, List.take_length]
      · rfl
    refine CW.callP (names_p (trimP s ⟨#[42, 46]⟩) (by rw [e2]; split; rw [List.length_drop]; omega; exact hz)) Tryz.call178 rfl rfl rfl (by first | exact .inl rfl | exact .inr ⟨_, _, rfl, by simp⟩ | exact .inr ⟨_, _, rfl, by simp [*]⟩) rfl (by simp) rfl rfl (CW.runOps 9999 400 rfl ?_)
    simp [Tryz.ntmps160, Tryz.results160]
    rw [e2]
    first | (exact fin0 (by simp [← hostP_eq, hostP, hz, e]) rfl) | (refine ⟨by decide +kernel, ?_⟩; exact fin0 (by simp [← hostP_eq, hostP, hz, e]) rfl)
  · have hz : ¬ ((bs s).length ≤ 40) := by have := of_decide_eq_false h1; omega
    first | (exact fin0 (by simp [hostB, hz]) rfl) | (refine ⟨by decide +kernel, ?_⟩; exact fin0 (by simp [hostB, hz]) rfl)
end Go.Proofs.YtnmocaniljacpaaGreatDoor
end
section
namespace Go.Proofs.YtnmocaniljacpaaGreatDoor
open Go.AI Go.G
set_option maxRecDepth 20000
theorem idx_weight (l : List Weight) (kf : D) (p : Weight → Bool) (hf : ∀ x ∈ l, FnOk Tryz.prog (.d kf) [st (wC x)] (bool (p x))) (hl : l.length ≤ 9223372036854775807) : Ct Tryz.prog 158 [lst (l.map wC), .d kf] [] [] (int (idxF p l)) [] := by
  refine Ct.of_body Tryz.func158 rfl mixed (by rw [Tryz.ntmps158]; simp) (CW.run 9999 400 rfl ?_)
  simp [Tryz.ntmps158, Tryz.results158]
  refine LoopW.inv mixed (Plain.retC _ _ _ _ _) rfl (ι := {k : Nat // k ≤ (l).length ∧ (l.take k).all (fun x => !p x) = true}) (fun k => [(0, lst (l.map wC)), (1, .d kf), (7, int l.length), (8, int k.1)]) (fun k => []) 64 (fun k => (l).length - k.1) ⟨0, by omega, by simp⟩ [] (by constructor <;> simp) ?_
  rintro ⟨k, hk1, hi⟩ B hB
  refine CW.run 9999 400 rfl ?_
  simp [Tryz.ntmps158, Tryz.results158]
  refine run_br_split (fun h => ?_) (fun h => ?_)
  · have hk : k < (l).length := by simpa using h
    have hr : (l)[k]? = some (l)[k] := List.getElem?_eq_getElem hk
    have hm : (l)[k] ∈ (l) := List.getElem_mem hk
    have ht : (l).take (k + 1) = (l).take k ++ [(l)[k]] := by rw [List.take_add_one, hr]; rfl
    have hd : (l).drop k = (l)[k] :: (l).drop (k + 1) := List.drop_eq_getElem_cons hk
    have hw : IntKind.wrap .i64 ((k : Int) + 1) = k + 1 := wrap_i64 (by omega) (by omega)
    obtain ⟨r, hx⟩ : ∃ x0, (l)[k] = x0 := ⟨_, rfl⟩
    rw [hx] at hr hm ht hd
    simp only [h]
    simp [hr, hw, Tryz.ntmps158, Tryz.results158]
    refine CW.callF (hf r hm) rfl rfl rfl (by first | exact .inl rfl | exact .inr ⟨_, _, rfl, by simp⟩ | exact .inr ⟨_, _, rfl, by simp [*]⟩) rfl (by simp) (CW.runOps 9999 400 rfl ?_)
    simp [Tryz.ntmps158, Tryz.results158]
    refine run_br_split (fun hp => ?_) (fun hp => ?_) <;> simp only [hp] <;> simp [Tryz.ntmps158, Tryz.results158]
    · first | (exact fin0 (by simp [idxF_at hi hr hp]) rfl) | (refine ⟨by decide +kernel, ?_⟩; exact fin0 (by simp [idxF_at hi hr hp]) rfl)
    · refine hB _ ⟨k + 1, by omega, by simp [ht, hi, hp]⟩ [] ?_ (by simp; omega)
      constructor <;> simp [hw, ht, hp]
  · have hkl : k = (l).length := by simp at h; omega
    subst hkl
    simp only [h]
    simp [List.take_length, List.drop_length, Tryz.ntmps158, Tryz.results158]
    rw [List.take_length] at hi
    first | (exact fin0 (by simp [idxF_none (fun x hx => by have := List.all_eq_true.1 hi x hx; simpa using this)]) rfl) | (refine ⟨by decide +kernel, ?_⟩; exact fin0 (by simp [idxF_none (fun x hx => by have := List.all_eq_true.1 hi x hx; simpa using this)]) rfl)
theorem any_weight (l : List Weight) (kf : D) (p : Weight → Bool) (hf : ∀ x ∈ l, FnOk Tryz.prog (.d kf) [st (wC x)] (bool (p x))) (hl : l.length ≤ 9223372036854775807) : Ct Tryz.prog 125 [lst (l.map wC), .d kf] [] [] (bool (l.any p)) [] := by
  refine Ct.of_body Tryz.func125 rfl mixed (by rw [Tryz.ntmps125]; simp) (CW.run 9999 400 rfl ?_)
  simp [Tryz.ntmps125, Tryz.results125]
  refine CW.callP (idx_weight l kf p hf hl) Tryz.call158 rfl rfl rfl (by first | exact .inl rfl | exact .inr ⟨_, _, rfl, by simp⟩ | exact .inr ⟨_, _, rfl, by simp [*]⟩) rfl (by simp) rfl rfl (CW.runOps 9999 400 rfl ?_)
  simp [Tryz.ntmps125, Tryz.results125]
  rw [idxF_any]
  first | (exact fin0 (by simp) rfl) | (refine ⟨by decide +kernel, ?_⟩; exact fin0 (by simp) rfl)
theorem idx_rule (l : List Rule) (kf : D) (p : Rule → Bool) (hf : ∀ x ∈ l, FnOk Tryz.prog (.d kf) [st (ruleC x)] (bool (p x))) (hl : l.length ≤ 9223372036854775807) : Ct Tryz.prog 159 [lst (l.map ruleC), .d kf] [] [] (int (idxF p l)) [] := by
  refine Ct.of_body Tryz.func159 rfl mixed (by rw [Tryz.ntmps159]; simp) (CW.run 9999 400 rfl ?_)
  simp [Tryz.ntmps159, Tryz.results159]
  refine LoopW.inv mixed (Plain.retC _ _ _ _ _) rfl (ι := {k : Nat // k ≤ (l).length ∧ (l.take k).all (fun x => !p x) = true}) (fun k => [(0, lst (l.map ruleC)), (1, .d kf), (7, int l.length), (8, int k.1)]) (fun k => []) 64 (fun k => (l).length - k.1) ⟨0, by omega, by simp⟩ [] (by constructor <;> simp) ?_
  rintro ⟨k, hk1, hi⟩ B hB
  refine CW.run 9999 400 rfl ?_
  simp [Tryz.ntmps159, Tryz.results159]
  refine run_br_split (fun h => ?_) (fun h => ?_)
  · have hk : k < (l).length := by simpa using h
    have hr : (l)[k]? = some (l)[k] := List.getElem?_eq_getElem hk
    have hm : (l)[k] ∈ (l) := List.getElem_mem hk
    have ht : (l).take (k + 1) = (l).take k ++ [(l)[k]] := by rw [List.take_add_one, hr]; rfl
    have hd : (l).drop k = (l)[k] :: (l).drop (k + 1) := List.drop_eq_getElem_cons hk
    have hw : IntKind.wrap .i64 ((k : Int) + 1) = k + 1 := wrap_i64 (by omega) (by omega)
    obtain ⟨r, hx⟩ : ∃ x0, (l)[k] = x0 := ⟨_, rfl⟩
    rw [hx] at hr hm ht hd
    simp only [h]
    simp [hr, hw, Tryz.ntmps159, Tryz.results159]
    refine CW.callF (hf r hm) rfl rfl rfl (by first | exact .inl rfl | exact .inr ⟨_, _, rfl, by simp⟩ | exact .inr ⟨_, _, rfl, by simp [*]⟩) rfl (by simp) (CW.runOps 9999 400 rfl ?_)
    simp [Tryz.ntmps159, Tryz.results159]
    refine run_br_split (fun hp => ?_) (fun hp => ?_) <;> simp only [hp] <;> simp [Tryz.ntmps159, Tryz.results159]
    · first | (exact fin0 (by simp [idxF_at hi hr hp]) rfl) | (refine ⟨by decide +kernel, ?_⟩; exact fin0 (by simp [idxF_at hi hr hp]) rfl)
    · refine hB _ ⟨k + 1, by omega, by simp [ht, hi, hp]⟩ [] ?_ (by simp; omega)
      constructor <;> simp [hw, ht, hp]
  · have hkl : k = (l).length := by simp at h; omega
    subst hkl
    simp only [h]
    simp [List.take_length, List.drop_length, Tryz.ntmps159, Tryz.results159]
    rw [List.take_length] at hi
    first | (exact fin0 (by simp [idxF_none (fun x hx => by have := List.all_eq_true.1 hi x hx; simpa using this)]) rfl) | (refine ⟨by decide +kernel, ?_⟩; exact fin0 (by simp [idxF_none (fun x hx => by have := List.all_eq_true.1 hi x hx; simpa using this)]) rfl)
theorem any_rule (l : List Rule) (kf : D) (p : Rule → Bool) (hf : ∀ x ∈ l, FnOk Tryz.prog (.d kf) [st (ruleC x)] (bool (p x))) (hl : l.length ≤ 9223372036854775807) : Ct Tryz.prog 129 [lst (l.map ruleC), .d kf] [] [] (bool (l.any p)) [] := by
  refine Ct.of_body Tryz.func129 rfl mixed (by rw [Tryz.ntmps129]; simp) (CW.run 9999 400 rfl ?_)
  simp [Tryz.ntmps129, Tryz.results129]
  refine CW.callP (idx_rule l kf p hf hl) Tryz.call159 rfl rfl rfl (by first | exact .inl rfl | exact .inr ⟨_, _, rfl, by simp⟩ | exact .inr ⟨_, _, rfl, by simp [*]⟩) rfl (by simp) rfl rfl (CW.runOps 9999 400 rfl ?_)
  simp [Tryz.ntmps129, Tryz.results129]
  rw [idxF_any]
  first | (exact fin0 (by simp) rfl) | (refine ⟨by decide +kernel, ?_⟩; exact fin0 (by simp) rfl)
theorem idx_res (l : List Res) (kf : D) (p : Res → Bool) (hf : ∀ x ∈ l, FnOk Tryz.prog (.d kf) [st (resC x)] (bool (p x))) (hl : l.length ≤ 9223372036854775807) : Ct Tryz.prog 49 [lst (l.map resC), .d kf] [] [] (int (idxF p l)) [] := by
  refine Ct.of_body Tryz.func49 rfl mixed (by rw [Tryz.ntmps49]; simp) (CW.run 9999 400 rfl ?_)
  simp [Tryz.ntmps49, Tryz.results49]
  refine LoopW.inv mixed (Plain.retC _ _ _ _ _) rfl (ι := {k : Nat // k ≤ (l).length ∧ (l.take k).all (fun x => !p x) = true}) (fun k => [(0, lst (l.map resC)), (1, .d kf), (7, int l.length), (8, int k.1)]) (fun k => []) 64 (fun k => (l).length - k.1) ⟨0, by omega, by simp⟩ [] (by constructor <;> simp) ?_
  rintro ⟨k, hk1, hi⟩ B hB
  refine CW.run 9999 400 rfl ?_
  simp [Tryz.ntmps49, Tryz.results49]
  refine run_br_split (fun h => ?_) (fun h => ?_)
  · have hk : k < (l).length := by simpa using h
    have hr : (l)[k]? = some (l)[k] := List.getElem?_eq_getElem hk
    have hm : (l)[k] ∈ (l) := List.getElem_mem hk
    have ht : (l).take (k + 1) = (l).take k ++ [(l)[k]] := by rw [List.take_add_one, hr]; rfl
    have hd : (l).drop k = (l)[k] :: (l).drop (k + 1) := List.drop_eq_getElem_cons hk
    have hw : IntKind.wrap .i64 ((k : Int) + 1) = k + 1 := wrap_i64 (by omega) (by omega)
    obtain ⟨r, hx⟩ : ∃ x0, (l)[k] = x0 := ⟨_, rfl⟩
    rw [hx] at hr hm ht hd
    simp only [h]
    simp [hr, hw, Tryz.ntmps49, Tryz.results49]
    refine CW.callF (hf r hm) rfl rfl rfl (by first | exact .inl rfl | exact .inr ⟨_, _, rfl, by simp⟩ | exact .inr ⟨_, _, rfl, by simp [*]⟩) rfl (by simp) (CW.runOps 9999 400 rfl ?_)
    simp [Tryz.ntmps49, Tryz.results49]
    refine run_br_split (fun hp => ?_) (fun hp => ?_) <;> simp only [hp] <;> simp [Tryz.ntmps49, Tryz.results49]
    · first | (exact fin0 (by simp [idxF_at hi hr hp]) rfl) | (refine ⟨by decide +kernel, ?_⟩; exact fin0 (by simp [idxF_at hi hr hp]) rfl)
    · refine hB _ ⟨k + 1, by omega, by simp [ht, hi, hp]⟩ [] ?_ (by simp; omega)
      constructor <;> simp [hw, ht, hp]
  · have hkl : k = (l).length := by simp at h; omega
    subst hkl
    simp only [h]
    simp [List.take_length, List.drop_length, Tryz.ntmps49, Tryz.results49]
    rw [List.take_length] at hi
    first | (exact fin0 (by simp [idxF_none (fun x hx => by have := List.all_eq_true.1 hi x hx; simpa using this)]) rfl) | (refine ⟨by decide +kernel, ?_⟩; exact fin0 (by simp [idxF_none (fun x hx => by have := List.all_eq_true.1 hi x hx; simpa using this)]) rfl)
theorem any_res (l : List Res) (kf : D) (p : Res → Bool) (hf : ∀ x ∈ l, FnOk Tryz.prog (.d kf) [st (resC x)] (bool (p x))) (hl : l.length ≤ 9223372036854775807) : Ct Tryz.prog 63 [lst (l.map resC), .d kf] [] [] (bool (l.any p)) [] := by
  refine Ct.of_body Tryz.func63 rfl mixed (by rw [Tryz.ntmps63]; simp) (CW.run 9999 400 rfl ?_)
  simp [Tryz.ntmps63, Tryz.results63]
  refine CW.callP (idx_res l kf p hf hl) Tryz.call49 rfl rfl rfl (by first | exact .inl rfl | exact .inr ⟨_, _, rfl, by simp⟩ | exact .inr ⟨_, _, rfl, by simp [*]⟩) rfl (by simp) rfl rfl (CW.runOps 9999 400 rfl ?_)
  simp [Tryz.ntmps63, Tryz.results63]
  rw [idxF_any]
  first | (exact fin0 (by simp) rfl) | (refine ⟨by decide +kernel, ?_⟩; exact fin0 (by simp) rfl)
theorem idx_key (l : List Key) (kf : D) (p : Key → Bool) (hf : ∀ x ∈ l, FnOk Tryz.prog (.d kf) [st (keyC x)] (bool (p x))) (hl : l.length ≤ 9223372036854775807) : Ct Tryz.prog 108 [lst (l.map keyC), .d kf] [] [] (int (idxF p l)) [] := by
  refine Ct.of_body Tryz.func108 rfl mixed (by rw [Tryz.ntmps108]; simp) (CW.run 9999 400 rfl ?_)
  simp [Tryz.ntmps108, Tryz.results108]
  refine LoopW.inv mixed (Plain.retC _ _ _ _ _) rfl (ι := {k : Nat // k ≤ (l).length ∧ (l.take k).all (fun x => !p x) = true}) (fun k => [(0, lst (l.map keyC)), (1, .d kf), (7, int l.length), (8, int k.1)]) (fun k => []) 64 (fun k => (l).length - k.1) ⟨0, by omega, by simp⟩ [] (by constructor <;> simp) ?_
  rintro ⟨k, hk1, hi⟩ B hB
  refine CW.run 9999 400 rfl ?_
  simp [Tryz.ntmps108, Tryz.results108]
  refine run_br_split (fun h => ?_) (fun h => ?_)
  · have hk : k < (l).length := by simpa using h
    have hr : (l)[k]? = some (l)[k] := List.getElem?_eq_getElem hk
    have hm : (l)[k] ∈ (l) := List.getElem_mem hk
    have ht : (l).take (k + 1) = (l).take k ++ [(l)[k]] := by rw [List.take_add_one, hr]; rfl
    have hd : (l).drop k = (l)[k] :: (l).drop (k + 1) := List.drop_eq_getElem_cons hk
    have hw : IntKind.wrap .i64 ((k : Int) + 1) = k + 1 := wrap_i64 (by omega) (by omega)
    obtain ⟨r, hx⟩ : ∃ x0, (l)[k] = x0 := ⟨_, rfl⟩
    rw [hx] at hr hm ht hd
    simp only [h]
    simp [hr, hw, Tryz.ntmps108, Tryz.results108]
    refine CW.callF (hf r hm) rfl rfl rfl (by first | exact .inl rfl | exact .inr ⟨_, _, rfl, by simp⟩ | exact .inr ⟨_, _, rfl, by simp [*]⟩) rfl (by simp) (CW.runOps 9999 400 rfl ?_)
    simp [Tryz.ntmps108, Tryz.results108]
    refine run_br_split (fun hp => ?_) (fun hp => ?_) <;> simp only [hp] <;> simp [Tryz.ntmps108, Tryz.results108]
    · first | (exact fin0 (by simp [idxF_at hi hr hp]) rfl) | (refine ⟨by decide +kernel, ?_⟩; exact fin0 (by simp [idxF_at hi hr hp]) rfl)
    · refine hB _ ⟨k + 1, by omega, by simp [ht, hi, hp]⟩ [] ?_ (by simp; omega)
      constructor <;> simp [hw, ht, hp]
  · have hkl : k = (l).length := by simp at h; omega
    subst hkl
    simp only [h]
    simp [List.take_length, List.drop_length, Tryz.ntmps108, Tryz.results108]
    rw [List.take_length] at hi
    first | (exact fin0 (by simp [idxF_none (fun x hx => by have := List.all_eq_true.1 hi x hx; simpa using this)]) rfl) | (refine ⟨by decide +kernel, ?_⟩; exact fin0 (by simp [idxF_none (fun x hx => by have := List.all_eq_true.1 hi x hx; simpa using this)]) rfl)
theorem any_key (l : List Key) (kf : D) (p : Key → Bool) (hf : ∀ x ∈ l, FnOk Tryz.prog (.d kf) [st (keyC x)] (bool (p x))) (hl : l.length ≤ 9223372036854775807) : Ct Tryz.prog 61 [lst (l.map keyC), .d kf] [] [] (bool (l.any p)) [] := by
  refine Ct.of_body Tryz.func61 rfl mixed (by rw [Tryz.ntmps61]; simp) (CW.run 9999 400 rfl ?_)
  simp [Tryz.ntmps61, Tryz.results61]
  refine CW.callP (idx_key l kf p hf hl) Tryz.call108 rfl rfl rfl (by first | exact .inl rfl | exact .inr ⟨_, _, rfl, by simp⟩ | exact .inr ⟨_, _, rfl, by simp [*]⟩) rfl (by simp) rfl rfl (CW.runOps 9999 400 rfl ?_)
  simp [Tryz.ntmps61, Tryz.results61]
  rw [idxF_any]
  first | (exact fin0 (by simp) rfl) | (refine ⟨by decide +kernel, ?_⟩; exact fin0 (by simp) rfl)
theorem within (n m : Int) : Ct Tryz.prog 92 [int n, int m] [] [] (bool (rngB n m)) [] := by
  refine Ct.of_body Tryz.func92 rfl mixed (by rw [Tryz.ntmps92]; simp) (CW.run 9999 400 rfl ?_)
  simp [Tryz.ntmps92, Tryz.results92]
  repeat' first
    | (refine run_gd_split (fun h => ?_) (fun h => ?_) <;> simp only [h] <;> simp [h, Tryz.ntmps92, Tryz.results92])
    | (refine run_br_split (fun h => ?_) (fun h => ?_) <;> simp only [h] <;> simp [h, Tryz.ntmps92, Tryz.results92])
    | (refine ⟨(show DrawSide _ _ from by decide +kernel), ?_⟩)
  all_goals exact fin0 (by simp [*, rngB]) rfl
theorem small1 (w : Weight) : Ct Tryz.prog 126 [st (wC w)] [] [] (bool (!rngB w.w 100)) [] := by
  refine Ct.of_body Tryz.func126 rfl mixed (by rw [Tryz.ntmps126]; simp) (CW.run 9999 400 rfl ?_)
  simp [Tryz.ntmps126, Tryz.results126]
  refine CW.callP (within w.w 100) Tryz.call92 rfl rfl rfl (by first | exact .inl rfl | exact .inr ⟨_, _, rfl, by simp⟩ | exact .inr ⟨_, _, rfl, by simp [*]⟩) rfl (by simp) rfl rfl (CW.runOps 9999 400 rfl ?_)
  simp [Tryz.ntmps126, Tryz.results126]
  first | (exact fin0 (by simp) rfl) | (refine ⟨by decide +kernel, ?_⟩; exact fin0 (by simp) rfl)
theorem small_p (r : Res) : Ct Tryz.prog 94 [st (resC r)] [] [] (bool (smallB r)) [] := by
  refine Ct.of_body Tryz.func94 rfl mixed (by rw [Tryz.ntmps94]; simp) (CW.run 9999 400 rfl ?_)
  simp [Tryz.ntmps94, Tryz.results94]
  refine CW.callP (within r.ver 2147483647) Tryz.call92 rfl rfl rfl (by first | exact .inl rfl | exact .inr ⟨_, _, rfl, by simp⟩ | exact .inr ⟨_, _, rfl, by simp [*]⟩) rfl (by simp) rfl rfl (CW.runOps 9999 400 rfl ?_)
  simp [Tryz.ntmps94, Tryz.results94]
  refine run_gd_split (fun h1 => ?_) (fun h1 => ?_) <;> simp only [h1] <;> simp [Tryz.ntmps94, Tryz.results94] <;> (try simp only [Bool.not_eq_true', Bool.not_eq_false', decide_eq_true_eq, decide_eq_false_iff_not] at h1)
  · first | (exact fin0 (by simp [smallB, h1]) rfl) | (refine ⟨by decide +kernel, ?_⟩; exact fin0 (by simp [smallB, h1]) rfl)
  refine CW.callP (within r.port 65535) Tryz.call92 rfl rfl rfl (by first | exact .inl rfl | exact .inr ⟨_, _, rfl, by simp⟩ | exact .inr ⟨_, _, rfl, by simp [*]⟩) rfl (by simp) rfl rfl (CW.runOps 9999 400 rfl ?_)
  simp [Tryz.ntmps94, Tryz.results94]
  refine run_gd_split (fun h2 => ?_) (fun h2 => ?_) <;> simp only [h2] <;> simp [Tryz.ntmps94, Tryz.results94] <;> (try simp only [Bool.not_eq_true', Bool.not_eq_false', decide_eq_true_eq, decide_eq_false_iff_not] at h2)
  · first | (exact fin0 (by simp [smallB, h2]) rfl) | (refine ⟨by decide +kernel, ?_⟩; exact fin0 (by simp [smallB, h2]) rfl)
  refine run_gd_split (fun h3 => ?_) (fun h3 => ?_) <;> simp only [h3] <;> simp [Tryz.ntmps94, Tryz.results94] <;> (try simp only [Bool.not_eq_true', Bool.not_eq_false', decide_eq_true_eq, decide_eq_false_iff_not] at h3)
  · have hz : ¬ r.rules.length ≤ 8 := by omega
    first | (exact fin0 (by simp [smallB, hz]) rfl) | (refine ⟨by decide +kernel, ?_⟩; exact fin0 (by simp [smallB, hz]) rfl)
  refine run_br_split (fun h4 => ?_) (fun h4 => ?_) <;> simp only [h4] <;> simp [Tryz.ntmps94, Tryz.results94] <;> (try simp only [Bool.not_eq_true', Bool.not_eq_false', decide_eq_true_eq, decide_eq_false_iff_not] at h4)
  · have hz : ¬ r.hosts.length ≤ 8 := by omega
    first | (exact fin0 (by simp [smallB, hz]) rfl) | (refine ⟨by decide +kernel, ?_⟩; exact fin0 (by simp [smallB, hz]) rfl)
  have hz3 : r.rules.length ≤ 8 := by omega
  have hz4 : r.hosts.length ≤ 8 := by omega
  refine LoopW.inv mixed (Plain.retC _ _ _ _ _) rfl (ι := {k : Nat // k ≤ (r.hosts).length ∧ (r.hosts.take k).all (fun h => rngB h 2147483647) = true}) (fun k => [(1, .ptr 64 0), (30, lst (r.hosts.map intC)), (31, int r.hosts.length), (32, int k.1)]) (fun k => [(64, .cells ((resC r).map .d) 51)]) 65 (fun k => (r.hosts).length - k.1) ⟨0, by omega, by simp⟩ [] (by constructor <;> simp) ?_
  rintro ⟨k, hk1, hi⟩ B hB
  refine CW.run 9999 400 rfl ?_
  simp [Tryz.ntmps94, Tryz.results94]
  refine run_br_split (fun h => ?_) (fun h => ?_)
  · have hk : k < (r.hosts).length := by simpa using h
    have hr : (r.hosts)[k]? = some (r.hosts)[k] := List.getElem?_eq_getElem hk
    have hm : (r.hosts)[k] ∈ (r.hosts) := List.getElem_mem hk
    have ht : (r.hosts).take (k + 1) = (r.hosts).take k ++ [(r.hosts)[k]] := by rw [List.take_add_one, hr]; rfl
    have hd : (r.hosts).drop k = (r.hosts)[k] :: (r.hosts).drop (k + 1) := List.drop_eq_getElem_cons hk
    have hw : IntKind.wrap .i64 ((k : Int) + 1) = k + 1 := wrap_i64 (by omega) (by omega)
    obtain ⟨y, hx⟩ : ∃ x0, (r.hosts)[k] = x0 := ⟨_, rfl⟩
    rw [hx] at hr hm ht hd
    simp only [h]
    simp [hr, hw, Tryz.ntmps94, Tryz.results94]
    refine CW.callP (within y 2147483647) Tryz.call92 rfl rfl rfl (by first | exact .inl rfl | exact .inr ⟨_, _, rfl, by simp⟩ | exact .inr ⟨_, _, rfl, by simp [*]⟩) rfl (by simp) rfl rfl (CW.runOps 9999 400 rfl ?_)
    simp [Tryz.ntmps94, Tryz.results94]
    refine run_br_split (fun h5 => ?_) (fun h5 => ?_) <;> simp only [h5] <;> simp [Tryz.ntmps94, Tryz.results94] <;> (try simp only [Bool.not_eq_true', Bool.not_eq_false', decide_eq_true_eq, decide_eq_false_iff_not] at h5)
    · have e : r.hosts.all (fun h => rngB h 2147483647) = false := by
        rw [List.all_eq_false]; exact ⟨y, hm, by simp [h5]⟩
      first | (exact fin0 (by simp [smallB, e]) rfl) | (refine ⟨by decide +kernel, ?_⟩; exact fin0 (by simp [smallB, e]) rfl)
    · refine hB _ ⟨k + 1, by omega, by simp [ht, hi, h5]⟩ [] ?_ (by simp; omega)
      constructor <;> simp [hw, ht, h5]
  · have hkl : k = (r.hosts).length := by simp at h; omega
    subst hkl
    simp only [h]
    simp [List.take_length, List.drop_length, Tryz.ntmps94, Tryz.results94]
    rw [List.take_length] at hi
    have hh := hi
    refine LoopW.inv mixed (Plain.retC _ _ _ _ _) rfl (ι := {k : Nat // k ≤ (r.rules).length ∧ (r.rules.take k).all splitB = true}) (fun k => [(1, .ptr 64 0), (41, lst (r.rules.map ruleC)), (42, int r.rules.length), (43, int k.1)]) (fun k => [(64, .cells ((resC r).map .d) 51)]) 65 (fun k => (r.rules).length - k.1) ⟨0, by omega, by simp⟩ [] (by constructor <;> simp) ?_
    rintro ⟨k, hk1, hi⟩ B hB
    refine CW.run 9999 400 rfl ?_
    simp [Tryz.ntmps94, Tryz.results94]
    refine run_br_split (fun h => ?_) (fun h => ?_)
    · have hk : k < (r.rules).length := by simpa using h
      have hr : (r.rules)[k]? = some (r.rules)[k] := List.getElem?_eq_getElem hk
      have hm : (r.rules)[k] ∈ (r.rules) := List.getElem_mem hk
      have ht : (r.rules).take (k + 1) = (r.rules).take k ++ [(r.rules)[k]] := by rw [List.take_add_one, hr]; rfl
      have hd : (r.rules).drop k = (r.rules)[k] :: (r.rules).drop (k + 1) := List.drop_eq_getElem_cons hk
      have hw : IntKind.wrap .i64 ((k : Int) + 1) = k + 1 := wrap_i64 (by omega) (by omega)
      obtain ⟨x, hx⟩ : ∃ x0, (r.rules)[k] = x0 := ⟨_, rfl⟩
      rw [hx] at hr hm ht hd
      simp only [h]
      simp [hr, hw, Tryz.ntmps94, Tryz.results94]
      refine run_gd_split (fun h6 => ?_) (fun h6 => ?_) <;> simp only [h6] <;> simp [Tryz.ntmps94, Tryz.results94] <;> (try simp only [Bool.not_eq_true', Bool.not_eq_false', decide_eq_true_eq, decide_eq_false_iff_not] at h6)
      · have hz : ¬ x.split.length ≤ 4 := by omega
        have e : r.rules.all splitB = false := by
          rw [List.all_eq_false]; exact ⟨x, hm, by simp [splitB, hz]⟩
        first | (exact fin0 (by simp [smallB, e]) rfl) | (refine ⟨by decide +kernel, ?_⟩; exact fin0 (by simp [smallB, e]) rfl)
      have hz : x.split.length ≤ 4 := by omega
      refine CW.callP (any_weight x.split (fnD 126) (fun w => !rngB w.w 100) (fun w _ => FnOk.of (small1 w) Tryz.call126 rfl rfl) (by omega)) Tryz.call125 rfl rfl rfl (by first | exact .inl rfl | exact .inr ⟨_, _, rfl, by simp⟩ | exact .inr ⟨_, _, rfl, by simp [*]⟩) rfl (by simp) rfl rfl (CW.runOps 9999 400 rfl ?_)
      simp [Tryz.ntmps94, Tryz.results94]
      refine run_br_split (fun h7 => ?_) (fun h7 => ?_) <;> simp only [h7] <;> simp [Tryz.ntmps94, Tryz.results94] <;> (try simp only [Bool.not_eq_true', Bool.not_eq_false', decide_eq_true_eq, decide_eq_false_iff_not] at h7)
      · have e : r.rules.all splitB = false := by
          rw [List.all_eq_false]; refine ⟨x, hm, ?_⟩
          simp [splitB, hz]; simpa using h7
        first | (exact fin0 (by simp [smallB, e]) rfl) | (refine ⟨by decide +kernel, ?_⟩; exact fin0 (by simp [smallB, e]) rfl)
      · have e : splitB x = true := by
          simp [splitB, hz]; simpa using h7
        refine hB _ ⟨k + 1, by omega, by simp [ht, hi, e]⟩ [] ?_ (by simp; omega)
        constructor <;> simp [hw, ht, e]
    · have hkl : k = (r.rules).length := by simp at h; omega
      subst hkl
      simp only [h]
      simp [List.take_length, List.drop_length, Tryz.ntmps94, Tryz.results94]
      rw [List.take_length] at hi
      first | (exact fin0 (by simp [smallB, hi, hh, h1, h2, hz3, hz4]) rfl) | (refine ⟨by decide +kernel, ?_⟩; exact fin0 (by simp [smallB, hi, hh, h1, h2, hz3, hz4]) rfl)
theorem may_p (k : Int) : Ct Tryz.prog 128 [int k] [] [] (.agg [bool (mayP k), bool (mayT k), bool (mayR k), bool (mayH k)]) [] := by
  refine Ct.of_body Tryz.func128 rfl mixed (by rw [Tryz.ntmps128]; simp) (CW.run 9999 400 rfl ?_)
  simp [Tryz.ntmps128, Tryz.results128]
  repeat' first
    | (refine run_gd_split (fun h => ?_) (fun h => ?_) <;> simp only [h] <;> simp [h, Tryz.ntmps128, Tryz.results128])
    | (refine run_br_split (fun h => ?_) (fun h => ?_) <;> simp only [h] <;> simp [h, Tryz.ntmps128, Tryz.results128])
    | (refine ⟨(show DrawSide _ _ from by decide +kernel), ?_⟩)
  all_goals exact fin0 (by simp [*, mayP, mayT, mayR, mayH]) rfl
theorem and_p (a b c d x y z t : Bool) : Ct Tryz.prog 127 [.agg [bool a, bool b, bool c, bool d], .agg [bool x, bool y, bool z, bool t]] [] [] (.agg [bool (a && x), bool (b && y), bool (c && z), bool (d && t)]) [] := by
  refine Ct.of_body Tryz.func127 rfl mixed (by rw [Tryz.ntmps127]; simp) (CW.run 9999 400 rfl ?_)
  simp [Tryz.ntmps127, Tryz.results127]
  cases a <;> cases b <;> cases c <;> cases d <;> (simp [Tryz.ntmps127, Tryz.results127]) <;> exact fin0 (by simp) rfl
theorem shaped_p (r : Res) : Ct Tryz.prog 95 [st (resC r)] [] [] (bool (shapedB r)) [] := by
  refine Ct.of_body Tryz.func95 rfl mixed (by rw [Tryz.ntmps95]; simp) (CW.run 9999 400 rfl ?_)
  simp [Tryz.ntmps95, Tryz.results95]
  refine CW.callP (may_p r.kind) Tryz.call128 rfl rfl rfl (by first | exact .inl rfl | exact .inr ⟨_, _, rfl, by simp⟩ | exact .inr ⟨_, _, rfl, by simp [*]⟩) rfl (by simp) rfl rfl (CW.runOps 9999 400 rfl ?_)
  simp [Tryz.ntmps95, Tryz.results95]
  refine CW.callP (and_p (!decide (r.port = 0)) (!decide (r.to = ⟨#[]⟩)) (decide (0 < r.rules.length)) (decide (0 < r.hosts.length)) (mayP r.kind) (mayT r.kind) (mayR r.kind) (mayH r.kind)) Tryz.call127 rfl rfl rfl (by first | exact .inl rfl | exact .inr ⟨_, _, rfl, by simp⟩ | exact .inr ⟨_, _, rfl, by simp [*]⟩) rfl (by simp) rfl rfl (CW.runOps 9999 400 rfl ?_)
  simp [Tryz.ntmps95, Tryz.results95]
  refine ⟨by decide +kernel, ?_⟩
  have e1 : decide (r.rules.length = 0) = !decide (0 < r.rules.length) := by cases r.rules <;> simp
  have e2 : decide (r.hosts.length = 0) = !decide (0 < r.hosts.length) := by cases r.hosts <;> simp
  have e3 : decide (bs r.to = []) = decide (r.to = ⟨#[]⟩) := by
    rw [Bool.eq_iff_iff, decide_eq_true_eq, decide_eq_true_eq, str_eq]; rfl
  have e : shapedB r = ((decide (r.port = 0) || mayP r.kind) && ((decide (r.to = ⟨#[]⟩) || mayT r.kind) && ((!decide (0 < r.rules.length) || mayR r.kind) && (!decide (0 < r.hosts.length) || mayH r.kind)))) := by
    rw [shapedB, e1, e2, e3, Bool.and_assoc, Bool.and_assoc]
  rw [e]
  first | (exact fin0 (by simp) rfl) | (refine ⟨by decide +kernel, ?_⟩; exact fin0 (by simp) rfl)
theorem rule1 (w : Weight) : Ct Tryz.prog 162 [st (wC w)] [] [] (bool (!nameB w.cluster)) [] := by
  refine Ct.of_body Tryz.func162 rfl mixed (by rw [Tryz.ntmps162]; simp) (CW.run 9999 400 rfl ?_)
  simp [Tryz.ntmps162, Tryz.results162]
  refine CW.callP (nameSane_p w.cluster) Tryz.call93 rfl rfl rfl (by first | exact .inl rfl | exact .inr ⟨_, _, rfl, by simp⟩ | exact .inr ⟨_, _, rfl, by simp [*]⟩) rfl (by simp) rfl rfl (CW.runOps 9999 400 rfl ?_)
  simp [Tryz.ntmps162, Tryz.results162]
  first | (exact fin0 (by simp) rfl) | (refine ⟨by decide +kernel, ?_⟩; exact fin0 (by simp) rfl)
theorem weighs1 (w : Weight) : Ct Tryz.prog 163 [st (wC w)] [] [] (bool (decide (0 < w.w))) [] := by
  refine Ct.of_body Tryz.func163 rfl mixed (by rw [Tryz.ntmps163]; simp) (CW.run 9999 400 rfl ?_)
  simp [Tryz.ntmps163, Tryz.results163]
  first | (exact fin0 (by simp) rfl) | (refine ⟨by decide +kernel, ?_⟩; exact fin0 (by simp) rfl)
theorem weighs_p (x : Rule) (hl : x.split.length ≤ 4) : Ct Tryz.prog 133 [st (ruleC x)] [] [] (bool (weighsB x)) [] := by
  refine Ct.of_body Tryz.func133 rfl mixed (by rw [Tryz.ntmps133]; simp) (CW.run 9999 400 rfl ?_)
  simp [Tryz.ntmps133, Tryz.results133]
  refine CW.callP (any_weight x.split (fnD 163) (fun w => decide (0 < w.w)) (fun w _ => FnOk.of (weighs1 w) Tryz.call163 rfl rfl) (by omega)) Tryz.call125 rfl rfl rfl (by first | exact .inl rfl | exact .inr ⟨_, _, rfl, by simp⟩ | exact .inr ⟨_, _, rfl, by simp [*]⟩) rfl (by simp) rfl rfl (CW.runOps 9999 400 rfl ?_)
  simp [Tryz.ntmps133, Tryz.results133]
  first | (exact fin0 (by simp [weighsB]) rfl) | (refine ⟨by decide +kernel, ?_⟩; exact fin0 (by simp [weighsB]) rfl)
theorem rule_p (x : Rule) (hl : x.split.length ≤ 4) : Ct Tryz.prog 131 [st (ruleC x)] [] [] (bool (ruleB x)) [] := by
  refine Ct.of_body Tryz.func131 rfl mixed (by rw [Tryz.ntmps131]; simp) (CW.run 9999 400 rfl ?_)
  simp [Tryz.ntmps131, Tryz.results131]
  refine CW.callP (host_p x.host) Tryz.call160 rfl rfl rfl (by first | exact .inl rfl | exact .inr ⟨_, _, rfl, by simp⟩ | exact .inr ⟨_, _, rfl, by simp [*]⟩) rfl (by simp) rfl rfl (CW.runOps 9999 400 rfl ?_)
  simp [Tryz.ntmps131, Tryz.results131]
  refine run_gd_split (fun h1 => ?_) (fun h1 => ?_) <;> simp only [h1] <;> simp [Tryz.ntmps131, Tryz.results131] <;> (try simp only [Bool.not_eq_true', Bool.not_eq_false', decide_eq_true_eq, decide_eq_false_iff_not] at h1)
  · refine CW.callP (path_p x.pre) Tryz.call161 rfl rfl rfl (by first | exact .inl rfl | exact .inr ⟨_, _, rfl, by simp⟩ | exact .inr ⟨_, _, rfl, by simp [*]⟩) rfl (by simp) rfl rfl (CW.runOps 9999 400 rfl ?_)
    simp [Tryz.ntmps131, Tryz.results131]
    refine run_gd_split (fun h2 => ?_) (fun h2 => ?_) <;> simp only [h2] <;> simp [Tryz.ntmps131, Tryz.results131] <;> (try simp only [Bool.not_eq_true', Bool.not_eq_false', decide_eq_true_eq, decide_eq_false_iff_not] at h2)
    · refine CW.callP (any_weight x.split (fnD 162) (fun w => !nameB w.cluster) (fun w _ => FnOk.of (rule1 w) Tryz.call162 rfl rfl) (by omega)) Tryz.call125 rfl rfl rfl (by first | exact .inl rfl | exact .inr ⟨_, _, rfl, by simp⟩ | exact .inr ⟨_, _, rfl, by simp [*]⟩) rfl (by simp) rfl rfl (CW.runOps 9999 400 rfl ?_)
      simp [Tryz.ntmps131, Tryz.results131]
      first | (exact fin0 (by simp [ruleB, h1, h2, List.all_eq_not_any_not]) rfl) | (refine ⟨by decide +kernel, ?_⟩; exact fin0 (by simp [ruleB, h1, h2, List.all_eq_not_any_not]) rfl)
    · first | (exact fin0 (by simp [ruleB, h1, h2]) rfl) | (refine ⟨by decide +kernel, ?_⟩; exact fin0 (by simp [ruleB, h1, h2]) rfl)
  · first | (exact fin0 (by simp [ruleB, h1]) rfl) | (refine ⟨by decide +kernel, ?_⟩; exact fin0 (by simp [ruleB, h1]) rfl)
theorem named1 (x : Rule) (hl : x.split.length ≤ 4) : Ct Tryz.prog 130 [st (ruleC x)] [] [] (bool (!ruleB x)) [] := by
  refine Ct.of_body Tryz.func130 rfl mixed (by rw [Tryz.ntmps130]; simp) (CW.run 9999 400 rfl ?_)
  simp [Tryz.ntmps130, Tryz.results130]
  refine CW.callP (rule_p x hl) Tryz.call131 rfl rfl rfl (by first | exact .inl rfl | exact .inr ⟨_, _, rfl, by simp⟩ | exact .inr ⟨_, _, rfl, by simp [*]⟩) rfl (by simp) rfl rfl (CW.runOps 9999 400 rfl ?_)
  simp [Tryz.ntmps130, Tryz.results130]
  first | (exact fin0 (by simp) rfl) | (refine ⟨by decide +kernel, ?_⟩; exact fin0 (by simp) rfl)
theorem named_p (r : Res) (hl : r.rules.length ≤ 8 ∧ ∀ x ∈ r.rules, x.split.length ≤ 4) : Ct Tryz.prog 96 [st (resC r)] [] [] (bool (namedB r)) [] := by
  refine Ct.of_body Tryz.func96 rfl mixed (by rw [Tryz.ntmps96]; simp) (CW.run 9999 400 rfl ?_)
  simp [Tryz.ntmps96, Tryz.results96]
  refine CW.callP (may_p r.kind) Tryz.call128 rfl rfl rfl (by first | exact .inl rfl | exact .inr ⟨_, _, rfl, by simp⟩ | exact .inr ⟨_, _, rfl, by simp [*]⟩) rfl (by simp) rfl rfl (CW.runOps 9999 400 rfl ?_)
  simp [Tryz.ntmps96, Tryz.results96]
  refine run_gd_split (fun h1 => ?_) (fun h1 => ?_) <;> simp only [h1] <;> simp [Tryz.ntmps96, Tryz.results96] <;> (try simp only [Bool.not_eq_true', Bool.not_eq_false', decide_eq_true_eq, decide_eq_false_iff_not] at h1)
  · refine CW.callP (nameSane_p r.to) Tryz.call93 rfl rfl rfl (by first | exact .inl rfl | exact .inr ⟨_, _, rfl, by simp⟩ | exact .inr ⟨_, _, rfl, by simp [*]⟩) rfl (by simp) rfl rfl (CW.runOps 9999 400 rfl ?_)
    simp [Tryz.ntmps96, Tryz.results96]
    refine run_br_split (fun h2 => ?_) (fun h2 => ?_) <;> simp only [h2] <;> simp [Tryz.ntmps96, Tryz.results96] <;> (try simp only [Bool.not_eq_true', Bool.not_eq_false', decide_eq_true_eq, decide_eq_false_iff_not] at h2)
    · first | (exact fin0 (by simp [namedB, h1, h2]) rfl) | (refine ⟨by decide +kernel, ?_⟩; exact fin0 (by simp [namedB, h1, h2]) rfl)
    refine CW.callP (any_rule r.rules (fnD 130) (fun x => !ruleB x) (fun x hx => FnOk.of (named1 x (hl.2 x hx)) Tryz.call130 rfl rfl) (by omega)) Tryz.call129 rfl rfl rfl (by first | exact .inl rfl | exact .inr ⟨_, _, rfl, by simp⟩ | exact .inr ⟨_, _, rfl, by simp [*]⟩) rfl (by simp) rfl rfl (CW.runOps 9999 400 rfl ?_)
    simp [Tryz.ntmps96, Tryz.results96]
    first | (exact fin0 (by simp [namedB, h1, h2, List.all_eq_not_any_not]) rfl) | (refine ⟨by decide +kernel, ?_⟩; exact fin0 (by simp [namedB, h1, h2, List.all_eq_not_any_not]) rfl)
  · refine CW.callP (any_rule r.rules (fnD 130) (fun x => !ruleB x) (fun x hx => FnOk.of (named1 x (hl.2 x hx)) Tryz.call130 rfl rfl) (by omega)) Tryz.call129 rfl rfl rfl (by first | exact .inl rfl | exact .inr ⟨_, _, rfl, by simp⟩ | exact .inr ⟨_, _, rfl, by simp [*]⟩) rfl (by simp) rfl rfl (CW.runOps 9999 400 rfl ?_)
    simp [Tryz.ntmps96, Tryz.results96]
    first | (exact fin0 (by simp [namedB, h1, List.all_eq_not_any_not]) rfl) | (refine ⟨by decide +kernel, ?_⟩; exact fin0 (by simp [namedB, h1, List.all_eq_not_any_not]) rfl)
theorem single1 (x y : Rule) : Ct Tryz.prog 132 [st (ruleC y), .d (.pro (ruleC x))] [] [] (bool (sameR x y)) [] := by
  refine Ct.of_body Tryz.func132 rfl mixed (by rw [Tryz.ntmps132]; simp) (CW.run 9999 400 rfl ?_)
  simp [Tryz.ntmps132, Tryz.results132]
  refine run_gd_split (fun h1 => ?_) (fun h1 => ?_) <;> simp only [h1] <;> simp [Tryz.ntmps132, Tryz.results132] <;> (try simp only [Bool.not_eq_true', Bool.not_eq_false', decide_eq_true_eq, decide_eq_false_iff_not] at h1)
  · first | (exact fin0 (by simp [sameR, h1]) rfl) | (refine ⟨by decide +kernel, ?_⟩; exact fin0 (by simp [sameR, h1]) rfl)
  · first | (exact fin0 (by simp [sameR, h1]) rfl) | (refine ⟨by decide +kernel, ?_⟩; exact fin0 (by simp [sameR, h1]) rfl)
theorem idx_int (l : List Int) (v : Int) (hl : l.length ≤ 9223372036854775807) : Ct Tryz.prog 164 [lst (l.map intC), int v] [] [] (int (idxF (fun x => decide (v = x)) l)) [] := by
  refine Ct.of_body Tryz.func164 rfl mixed (by rw [Tryz.ntmps164]; simp) (CW.run 9999 400 rfl ?_)
  simp [Tryz.ntmps164, Tryz.results164]
  refine LoopW.inv mixed (Plain.retC _ _ _ _ _) rfl (ι := {k : Nat // k ≤ (l).length ∧ (l.take k).all (fun x => !decide (v = x)) = true}) (fun k => [(0, lst (l.map intC)), (1, int v), (7, int l.length), (8, int k.1)]) (fun k => []) 64 (fun k => (l).length - k.1) ⟨0, by omega, by simp⟩ [] (by constructor <;> simp) ?_
  rintro ⟨k, hk1, hi⟩ B hB
  refine CW.run 9999 400 rfl ?_
  simp [Tryz.ntmps164, Tryz.results164]
  refine run_br_split (fun h => ?_) (fun h => ?_)
  · have hk : k < (l).length := by simpa using h
    have hr : (l)[k]? = some (l)[k] := List.getElem?_eq_getElem hk
    have hm : (l)[k] ∈ (l) := List.getElem_mem hk
    have ht : (l).take (k + 1) = (l).take k ++ [(l)[k]] := by rw [List.take_add_one, hr]; rfl
    have hd : (l).drop k = (l)[k] :: (l).drop (k + 1) := List.drop_eq_getElem_cons hk
    have hw : IntKind.wrap .i64 ((k : Int) + 1) = k + 1 := wrap_i64 (by omega) (by omega)
    obtain ⟨r, hx⟩ : ∃ x0, (l)[k] = x0 := ⟨_, rfl⟩
    rw [hx] at hr hm ht hd
    simp only [h]
    simp [hr, hw, Tryz.ntmps164, Tryz.results164]
    refine run_br_split (fun hp => ?_) (fun hp => ?_) <;> simp only [hp] <;> simp [Tryz.ntmps164, Tryz.results164] <;> (try simp only [Bool.not_eq_true', Bool.not_eq_false', decide_eq_true_eq, decide_eq_false_iff_not] at hp)
    · first | (exact fin0 (by simp [idxF_at (p := fun x => decide (v = x)) hi hr (by simp [hp])]) rfl) | (refine ⟨by decide +kernel, ?_⟩; exact fin0 (by simp [idxF_at (p := fun x => decide (v = x)) hi hr (by simp [hp])]) rfl)
    · refine hB _ ⟨k + 1, by omega, by simp [ht, hi, hp]⟩ [] ?_ (by simp; omega)
      constructor <;> simp [hw, ht, hp]
  · have hkl : k = (l).length := by simp at h; omega
    subst hkl
    simp only [h]
    simp [List.take_length, List.drop_length, Tryz.ntmps164, Tryz.results164]
    rw [List.take_length] at hi
    first | (exact fin0 (by simp [idxF_none (p := fun x => decide (v = x)) (fun x hx => by have := List.all_eq_true.1 hi x hx; simpa using this)]) rfl) | (refine ⟨by decide +kernel, ?_⟩; exact fin0 (by simp [idxF_none (p := fun x => decide (v = x)) (fun x hx => by have := List.all_eq_true.1 hi x hx; simpa using this)]) rfl)
theorem has_int (l : List Int) (v : Int) (hl : l.length ≤ 9223372036854775807) : Ct Tryz.prog 134 [lst (l.map intC), int v] [] [] (bool (l.any fun x => decide (v = x))) [] := by
  refine Ct.of_body Tryz.func134 rfl mixed (by rw [Tryz.ntmps134]; simp) (CW.run 9999 400 rfl ?_)
  simp [Tryz.ntmps134, Tryz.results134]
  refine CW.callP (idx_int l v hl) Tryz.call164 rfl rfl rfl (by first | exact .inl rfl | exact .inr ⟨_, _, rfl, by simp⟩ | exact .inr ⟨_, _, rfl, by simp [*]⟩) rfl (by simp) rfl rfl (CW.runOps 9999 400 rfl ?_)
  simp [Tryz.ntmps134, Tryz.results134]
  rw [idxF_any]
  first | (exact fin0 (by simp) rfl) | (refine ⟨by decide +kernel, ?_⟩; exact fin0 (by simp) rfl)
theorem single_p (r : Res) (hl : r.rules.length ≤ 8 ∧ r.hosts.length ≤ 8 ∧ ∀ x ∈ r.rules, x.split.length ≤ 4) : Ct Tryz.prog 97 [st (resC r)] [] [] (bool (singleB r)) [] := by
  refine Ct.of_body Tryz.func97 rfl mixed (by rw [Tryz.ntmps97]; simp) (CW.run 9999 400 rfl ?_)
  simp [Tryz.ntmps97, Tryz.results97]
  obtain ⟨hl1, hl2, hl3⟩ := hl
  refine LoopW.inv mixed (Plain.retC _ _ _ _ _) rfl (ι := {k : Nat // k ≤ (r.rules).length ∧ ((r.rules.take k).all weighsB = true ∧ aloneG sameR (r.rules.take k) (r.rules.drop k) = aloneG sameR [] r.rules)}) (fun k => [(1, .ptr 64 0), (9, lst (r.rules.map ruleC)), (10, int r.rules.length), (11, int k.1)]) (fun k => [(64, .cells ((resC r).map .d) 51)]) 65 (fun k => (r.rules).length - k.1) ⟨0, by omega, by simp⟩ [] (by constructor <;> simp) ?_
  rintro ⟨k, hk1, hi⟩ B hB
  refine CW.run 5 400 rfl ?_
  simp [Tryz.ntmps97, Tryz.results97]
  refine run_br_split (fun h => ?_) (fun h => ?_)
  · have hk : k < (r.rules).length := by simpa using h
    have hr : (r.rules)[k]? = some (r.rules)[k] := List.getElem?_eq_getElem hk
    have hm : (r.rules)[k] ∈ (r.rules) := List.getElem_mem hk
    have ht : (r.rules).take (k + 1) = (r.rules).take k ++ [(r.rules)[k]] := by rw [List.take_add_one, hr]; rfl
    have hd : (r.rules).drop k = (r.rules)[k] :: (r.rules).drop (k + 1) := List.drop_eq_getElem_cons hk
    have hw : IntKind.wrap .i64 ((k : Int) + 1) = k + 1 := wrap_i64 (by omega) (by omega)
    obtain ⟨x, hx⟩ : ∃ x0, (r.rules)[k] = x0 := ⟨_, rfl⟩
    rw [hx] at hr hm ht hd
    simp only [h]
    simp [hr, hw, Tryz.ntmps97, Tryz.results97]
    refine CW.sub (tm := [(1, .ptr 64 0), (9, lst (r.rules.map ruleC)), (10, int r.rules.length), (11, int k), (3, int k), (4, .d (.pro (ruleC x))), (5, .d (.fn (.func 132) [] [.pro (ruleC x)]))]) (m := [(64, .cells ((resC r).map .d) 51)]) (nx := 65) [] [321] rfl (by constructor <;> simp) ?_
    obtain ⟨hi1, hi2⟩ := hi
    rw [hd, aloneG] at hi2
    refine CW.run 9999 400 rfl ?_
    simp [Tryz.ntmps97, Tryz.results97]
    refine CW.callP (weighs_p x (hl3 x hm)) Tryz.call133 rfl rfl rfl (by first | exact .inl rfl | exact .inr ⟨_, _, rfl, by simp⟩ | exact .inr ⟨_, _, rfl, by simp [*]⟩) rfl (by simp) rfl rfl (CW.runOps 9999 400 rfl ?_)
    simp [Tryz.ntmps97, Tryz.results97]
    refine run_gd_split (fun h1 => ?_) (fun h1 => ?_) <;> simp only [h1] <;> simp [Tryz.ntmps97, Tryz.results97] <;> (try simp only [Bool.not_eq_true', Bool.not_eq_false', decide_eq_true_eq, decide_eq_false_iff_not] at h1)
    · have e : r.rules.all weighsB = false := by
        rw [List.all_eq_false]; exact ⟨x, hm, by simp [h1]⟩
      first | (exact fin0 (by simp [singleB, e]) rfl) | (refine ⟨by decide +kernel, ?_⟩; exact fin0 (by simp [singleB, e]) rfl)
    refine ⟨by omega, ?_⟩
    refine CW.callP (any_rule (r.rules.take k) (.fn (.func 132) [] [.pro (ruleC x)]) (sameR x) (fun y _ => FnOk.clo (single1 x y) Tryz.call132 rfl rfl) (by simp; omega)) Tryz.call129 rfl rfl rfl (by first | exact .inl rfl | exact .inr ⟨_, _, rfl, by simp⟩ | exact .inr ⟨_, _, rfl, by simp [*]⟩) rfl (by simp) rfl rfl (CW.runOps 9999 400 rfl ?_)
    simp [Tryz.ntmps97, Tryz.results97]
    refine run_br_split (fun h2 => ?_) (fun h2 => ?_) <;> simp only [h2] <;> simp [Tryz.ntmps97, Tryz.results97] <;> (try simp only [Bool.not_eq_true', Bool.not_eq_false', decide_eq_true_eq, decide_eq_false_iff_not] at h2)
    · have e : aloneG sameR [] r.rules = false := by rw [← hi2, h2]; rfl
      first | (exact fin0 (by simp [singleB, e]) rfl) | (refine ⟨by decide +kernel, ?_⟩; exact fin0 (by simp [singleB, e]) rfl)
    · refine hB _ ⟨k + 1, by omega, by simp [ht, hi1, h1], by rw [ht, ← hi2, h2]; rfl⟩ [] ?_ (by simp; omega)
      constructor <;> simp [hw]
  · have hkl : k = (r.rules).length := by simp at h; omega
    subst hkl
    simp only [h]
    simp [List.take_length, List.drop_length, Tryz.ntmps97, Tryz.results97]
    rw [List.take_length, List.drop_length] at hi
    obtain ⟨hi1, hi2⟩ := hi
    simp only [aloneG] at hi2
    refine LoopW.inv mixed (Plain.retC _ _ _ _ _) rfl (ι := {k : Nat // k ≤ (r.hosts).length ∧ (aloneG (fun a b : Int => decide (a = b)) (r.hosts.take k) (r.hosts.drop k) = aloneG (fun a b => decide (a = b)) [] r.hosts)}) (fun k => [(1, .ptr 64 0), (30, lst (r.hosts.map intC)), (31, int r.hosts.length), (32, int k.1)]) (fun k => [(64, .cells ((resC r).map .d) 51)]) 65 (fun k => (r.hosts).length - k.1) ⟨0, by omega, by simp⟩ [] (by constructor <;> simp) ?_
    rintro ⟨k, hk1, hi⟩ B hB
    refine CW.run 9999 400 rfl ?_
    simp [Tryz.ntmps97, Tryz.results97]
    refine run_br_split (fun h => ?_) (fun h => ?_)
    · have hk : k < (r.hosts).length := by simpa using h
      have hr : (r.hosts)[k]? = some (r.hosts)[k] := List.getElem?_eq_getElem hk
      have hm : (r.hosts)[k] ∈ (r.hosts) := List.getElem_mem hk
      have ht : (r.hosts).take (k + 1) = (r.hosts).take k ++ [(r.hosts)[k]] := by rw [List.take_add_one, hr]; rfl
      have hd : (r.hosts).drop k = (r.hosts)[k] :: (r.hosts).drop (k + 1) := List.drop_eq_getElem_cons hk
      have hw : IntKind.wrap .i64 ((k : Int) + 1) = k + 1 := wrap_i64 (by omega) (by omega)
      obtain ⟨y, hx⟩ : ∃ x0, (r.hosts)[k] = x0 := ⟨_, rfl⟩
      rw [hx] at hr hm ht hd
      simp only [h]
      simp [hr, hw, Tryz.ntmps97, Tryz.results97]
      rw [hd, aloneG] at hi
      refine ⟨by omega, ?_⟩
      refine CW.callP (has_int (r.hosts.take k) y (by simp; omega)) Tryz.call134 rfl rfl rfl (by first | exact .inl rfl | exact .inr ⟨_, _, rfl, by simp⟩ | exact .inr ⟨_, _, rfl, by simp [*]⟩) rfl (by simp) rfl rfl (CW.runOps 9999 400 rfl ?_)
      simp [Tryz.ntmps97, Tryz.results97]
      refine run_br_split (fun h2 => ?_) (fun h2 => ?_) <;> simp only [h2] <;> simp [Tryz.ntmps97, Tryz.results97] <;> (try simp only [Bool.not_eq_true', Bool.not_eq_false', decide_eq_true_eq, decide_eq_false_iff_not] at h2)
      · have e : aloneG (fun a b : Int => decide (a = b)) [] r.hosts = false := by rw [← hi, h2]; rfl
        first | (exact fin0 (by simp [singleB, e]) rfl) | (refine ⟨by decide +kernel, ?_⟩; exact fin0 (by simp [singleB, e]) rfl)
      · refine hB _ ⟨k + 1, by omega, by rw [ht, ← hi, h2]; rfl⟩ [] ?_ (by simp; omega)
        constructor <;> simp [hw]
    · have hkl : k = (r.hosts).length := by simp at h; omega
      subst hkl
      simp only [h]
      simp [List.take_length, List.drop_length, Tryz.ntmps97, Tryz.results97]
      rw [List.take_length, List.drop_length] at hi
      simp only [aloneG] at hi
      first | (exact fin0 (by simp [singleB, hi1, ← hi2, ← hi]) rfl) | (refine ⟨by decide +kernel, ?_⟩; exact fin0 (by simp [singleB, hi1, ← hi2, ← hi]) rfl)
end Go.Proofs.YtnmocaniljacpaaGreatDoor
end
section
namespace Go.Proofs.YtnmocaniljacpaaGreatDoor
open Go.AI Go.G
set_option maxRecDepth 20000
theorem small_bounds {r : Res} (h : smallB r = true) : r.rules.length ≤ 8 ∧ r.hosts.length ≤ 8 ∧ ∀ x ∈ r.rules, x.split.length ≤ 4 := by
  simp only [smallB, Bool.and_eq_true, decide_eq_true_eq, List.all_eq_true, splitB] at h
  exact ⟨h.1.1.1.2, h.1.1.2, fun x hx => (h.2 x hx).1⟩
theorem sane_p (r : Res) : Ct Tryz.prog 53 [st (resC r)] [] [] (int (saneE r)) [] := by
  refine Ct.of_body Tryz.func53 rfl mixed (by rw [Tryz.ntmps53]; simp) (CW.run 9999 400 rfl ?_)
  simp [Tryz.ntmps53, Tryz.results53]
  refine CW.callP (within r.kind 3) Tryz.call92 rfl rfl rfl (by first | exact .inl rfl | exact .inr ⟨_, _, rfl, by simp⟩ | exact .inr ⟨_, _, rfl, by simp [*]⟩) rfl (by simp) rfl rfl (CW.runOps 9999 400 rfl ?_)
  simp [Tryz.ntmps53, Tryz.results53]
  refine run_br_split (fun h1 => ?_) (fun h1 => ?_) <;> simp only [h1] <;> simp [Tryz.ntmps53, Tryz.results53] <;> (try simp only [Bool.not_eq_true', Bool.not_eq_false', decide_eq_true_eq, decide_eq_false_iff_not] at h1)
  · first | (exact fin0 (by simp [saneE, h1]) rfl) | (refine ⟨by decide +kernel, ?_⟩; exact fin0 (by simp [saneE, h1]) rfl)
  refine CW.callP (nameSane_p r.name) Tryz.call93 rfl rfl rfl (by first | exact .inl rfl | exact .inr ⟨_, _, rfl, by simp⟩ | exact .inr ⟨_, _, rfl, by simp [*]⟩) rfl (by simp) rfl rfl (CW.runOps 9999 400 rfl ?_)
  simp [Tryz.ntmps53, Tryz.results53]
  refine run_br_split (fun h2 => ?_) (fun h2 => ?_) <;> simp only [h2] <;> simp [Tryz.ntmps53, Tryz.results53] <;> (try simp only [Bool.not_eq_true', Bool.not_eq_false', decide_eq_true_eq, decide_eq_false_iff_not] at h2)
  · first | (exact fin0 (by simp [saneE, h1, h2]) rfl) | (refine ⟨by decide +kernel, ?_⟩; exact fin0 (by simp [saneE, h1, h2]) rfl)
  refine CW.callP (small_p r) Tryz.call94 rfl rfl rfl (by first | exact .inl rfl | exact .inr ⟨_, _, rfl, by simp⟩ | exact .inr ⟨_, _, rfl, by simp [*]⟩) rfl (by simp) rfl rfl (CW.runOps 9999 400 rfl ?_)
  simp [Tryz.ntmps53, Tryz.results53]
  refine run_br_split (fun h3 => ?_) (fun h3 => ?_) <;> simp only [h3] <;> simp [Tryz.ntmps53, Tryz.results53] <;> (try simp only [Bool.not_eq_true', Bool.not_eq_false', decide_eq_true_eq, decide_eq_false_iff_not] at h3)
  · first | (exact fin0 (by simp [saneE, h1, h2, h3]) rfl) | (refine ⟨by decide +kernel, ?_⟩; exact fin0 (by simp [saneE, h1, h2, h3]) rfl)
  have hb := small_bounds h3
  refine CW.callP (shaped_p r) Tryz.call95 rfl rfl rfl (by first | exact .inl rfl | exact .inr ⟨_, _, rfl, by simp⟩ | exact .inr ⟨_, _, rfl, by simp [*]⟩) rfl (by simp) rfl rfl (CW.runOps 9999 400 rfl ?_)
  simp [Tryz.ntmps53, Tryz.results53]
  refine run_br_split (fun h4 => ?_) (fun h4 => ?_) <;> simp only [h4] <;> simp [Tryz.ntmps53, Tryz.results53] <;> (try simp only [Bool.not_eq_true', Bool.not_eq_false', decide_eq_true_eq, decide_eq_false_iff_not] at h4)
  · first | (exact fin0 (by simp [saneE, h1, h2, h3, h4]) rfl) | (refine ⟨by decide +kernel, ?_⟩; exact fin0 (by simp [saneE, h1, h2, h3, h4]) rfl)
  refine CW.callP (named_p r ⟨hb.1, hb.2.2⟩) Tryz.call96 rfl rfl rfl (by first | exact .inl rfl | exact .inr ⟨_, _, rfl, by simp⟩ | exact .inr ⟨_, _, rfl, by simp [*]⟩) rfl (by simp) rfl rfl (CW.runOps 9999 400 rfl ?_)
  simp [Tryz.ntmps53, Tryz.results53]
  refine run_br_split (fun h5 => ?_) (fun h5 => ?_) <;> simp only [h5] <;> simp [Tryz.ntmps53, Tryz.results53] <;> (try simp only [Bool.not_eq_true', Bool.not_eq_false', decide_eq_true_eq, decide_eq_false_iff_not] at h5)
  · first | (exact fin0 (by simp [saneE, h1, h2, h3, h4, h5]) rfl) | (refine ⟨by decide +kernel, ?_⟩; exact fin0 (by simp [saneE, h1, h2, h3, h4, h5]) rfl)
  refine CW.callP (single_p r hb) Tryz.call97 rfl rfl rfl (by first | exact .inl rfl | exact .inr ⟨_, _, rfl, by simp⟩ | exact .inr ⟨_, _, rfl, by simp [*]⟩) rfl (by simp) rfl rfl (CW.runOps 9999 400 rfl ?_)
  simp [Tryz.ntmps53, Tryz.results53]
  refine run_br_split (fun h6 => ?_) (fun h6 => ?_) <;> simp only [h6] <;> simp [Tryz.ntmps53, Tryz.results53] <;> (try simp only [Bool.not_eq_true', Bool.not_eq_false', decide_eq_true_eq, decide_eq_false_iff_not] at h6)
  · first | (exact fin0 (by simp [saneE, h1, h2, h3, h4, h5, h6]) rfl) | (refine ⟨by decide +kernel, ?_⟩; exact fin0 (by simp [saneE, h1, h2, h3, h4, h5, h6]) rfl)
  · first | (exact fin0 (by simp [saneE, h1, h2, h3, h4, h5, h6]) rfl) | (refine ⟨by decide +kernel, ?_⟩; exact fin0 (by simp [saneE, h1, h2, h3, h4, h5, h6]) rfl)
theorem rng_not {n m : Int} : rngB n m = false ↔ n < 0 ∨ m < n := by
  simp [rngB, ← Bool.not_eq_true]; omega
theorem rng_yes {n m : Int} : rngB n m = true ↔ 0 ≤ n ∧ n ≤ m := by simp [rngB]
theorem big_r (r : Res) : Ct Tryz.prog 184 [st (resC r)] [] [] (bool (!smallB r)) [] := by
  refine Ct.of_body Tryz.func184 rfl mixed (by rw [Tryz.ntmps184]; simp) (CW.run 9999 400 rfl ?_)
  simp [Tryz.ntmps184, Tryz.results184]
  refine run_gd_split (fun h1 => ?_) (fun h1 => ?_) <;> simp only [h1] <;> simp [Tryz.ntmps184, Tryz.results184] <;> (try simp only [Bool.not_eq_true', Bool.not_eq_false', decide_eq_true_eq, decide_eq_false_iff_not] at h1)
  · first | (exact fin0 (by simp [smallB, rng_not.2 (.inl h1)]) rfl) | (refine ⟨by decide +kernel, ?_⟩; exact fin0 (by simp [smallB, rng_not.2 (.inl h1)]) rfl)
  refine run_gd_split (fun h2 => ?_) (fun h2 => ?_) <;> simp only [h2] <;> simp [Tryz.ntmps184, Tryz.results184] <;> (try simp only [Bool.not_eq_true', Bool.not_eq_false', decide_eq_true_eq, decide_eq_false_iff_not] at h2)
  · first | (exact fin0 (by simp [smallB, rng_not.2 (.inr h2)]) rfl) | (refine ⟨by decide +kernel, ?_⟩; exact fin0 (by simp [smallB, rng_not.2 (.inr h2)]) rfl)
  have r1 := rng_yes.2 ⟨Int.not_lt.1 h1, Int.not_lt.1 h2⟩
  refine run_gd_split (fun h3 => ?_) (fun h3 => ?_) <;> simp only [h3] <;> simp [Tryz.ntmps184, Tryz.results184] <;> (try simp only [Bool.not_eq_true', Bool.not_eq_false', decide_eq_true_eq, decide_eq_false_iff_not] at h3)
  · first | (exact fin0 (by simp [smallB, rng_not.2 (.inl h3)]) rfl) | (refine ⟨by decide +kernel, ?_⟩; exact fin0 (by simp [smallB, rng_not.2 (.inl h3)]) rfl)
  refine run_gd_split (fun h4 => ?_) (fun h4 => ?_) <;> simp only [h4] <;> simp [Tryz.ntmps184, Tryz.results184] <;> (try simp only [Bool.not_eq_true', Bool.not_eq_false', decide_eq_true_eq, decide_eq_false_iff_not] at h4)
  · first | (exact fin0 (by simp [smallB, rng_not.2 (.inr h4)]) rfl) | (refine ⟨by decide +kernel, ?_⟩; exact fin0 (by simp [smallB, rng_not.2 (.inr h4)]) rfl)
  have r2 := rng_yes.2 ⟨Int.not_lt.1 h3, Int.not_lt.1 h4⟩
  refine run_gd_split (fun h5 => ?_) (fun h5 => ?_) <;> simp only [h5] <;> simp [Tryz.ntmps184, Tryz.results184] <;> (try simp only [Bool.not_eq_true', Bool.not_eq_false', decide_eq_true_eq, decide_eq_false_iff_not] at h5)
  · have hz : ¬ r.rules.length ≤ 8 := by omega
    first | (exact fin0 (by simp [smallB, hz]) rfl) | (refine ⟨by decide +kernel, ?_⟩; exact fin0 (by simp [smallB, hz]) rfl)
  refine run_br_split (fun h6 => ?_) (fun h6 => ?_) <;> simp only [h6] <;> simp [Tryz.ntmps184, Tryz.results184] <;> (try simp only [Bool.not_eq_true', Bool.not_eq_false', decide_eq_true_eq, decide_eq_false_iff_not] at h6)
  · have hz : ¬ r.hosts.length ≤ 8 := by omega
    first | (exact fin0 (by simp [smallB, hz]) rfl) | (refine ⟨by decide +kernel, ?_⟩; exact fin0 (by simp [smallB, hz]) rfl)
  have hz5 : r.rules.length ≤ 8 := by omega
  have hz6 : r.hosts.length ≤ 8 := by omega
  refine LoopW.inv mixed (Plain.retC _ _ _ _ _) rfl (ι := {k : Nat // k ≤ (r.hosts).length ∧ (r.hosts.take k).all (fun h => rngB h 2147483647) = true}) (fun k => [(1, .ptr 64 0), (3, int k.1)]) (fun k => [(64, .cells ((resC r).map .d) 51)]) 65 (fun k => (r.hosts).length - k.1) ⟨0, by omega, by simp⟩ [] (by constructor <;> simp) ?_
  rintro ⟨k, hk1, hi⟩ B hB
  refine CW.run 9999 400 rfl ?_
  simp [Tryz.ntmps184, Tryz.results184]
  refine run_br_split (fun h => ?_) (fun h => ?_)
  · have hk : k < (r.hosts).length := by simpa using h
    have hr : (r.hosts)[k]? = some (r.hosts)[k] := List.getElem?_eq_getElem hk
    have hm : (r.hosts)[k] ∈ (r.hosts) := List.getElem_mem hk
    have ht : (r.hosts).take (k + 1) = (r.hosts).take k ++ [(r.hosts)[k]] := by rw [List.take_add_one, hr]; rfl
    have hd : (r.hosts).drop k = (r.hosts)[k] :: (r.hosts).drop (k + 1) := List.drop_eq_getElem_cons hk
    have hw : IntKind.wrap .i64 ((k : Int) + 1) = k + 1 := wrap_i64 (by omega) (by omega)
    obtain ⟨y, hx⟩ : ∃ x0, (r.hosts)[k] = x0 := ⟨_, rfl⟩
    rw [hx] at hr hm ht hd
    simp only [h]
    simp [hr, hw, Tryz.ntmps184, Tryz.results184]
    have ef : rngB y 2147483647 = false → (r.hosts.all fun h => rngB h 2147483647) = false := fun e => by
      rw [List.all_eq_false]; exact ⟨y, hm, by simp [e]⟩
    refine run_gd_split (fun h7 => ?_) (fun h7 => ?_) <;> simp only [h7] <;> simp [hr, Tryz.ntmps184, Tryz.results184] <;> (try simp only [Bool.not_eq_true', Bool.not_eq_false', decide_eq_true_eq, decide_eq_false_iff_not] at h7)
    · first | (exact fin0 (by simp [smallB, ef (rng_not.2 (.inl h7))]) rfl) | (refine ⟨by decide +kernel, ?_⟩; exact fin0 (by simp [smallB, ef (rng_not.2 (.inl h7))]) rfl)
    refine run_br_split (fun h8 => ?_) (fun h8 => ?_) <;> simp only [h8] <;> simp [Tryz.ntmps184, Tryz.results184] <;> (try simp only [Bool.not_eq_true', Bool.not_eq_false', decide_eq_true_eq, decide_eq_false_iff_not] at h8)
    · first | (exact fin0 (by simp [smallB, ef (rng_not.2 (.inr h8))]) rfl) | (refine ⟨by decide +kernel, ?_⟩; exact fin0 (by simp [smallB, ef (rng_not.2 (.inr h8))]) rfl)
    · refine hB _ ⟨k + 1, by omega, by simp [ht, hi, rng_yes.2 ⟨Int.not_lt.1 h7, Int.not_lt.1 h8⟩]⟩ [] ?_ (by simp; omega)
      constructor <;> simp [hw, ht, rng_yes.2 ⟨Int.not_lt.1 h7, Int.not_lt.1 h8⟩]
  · have hkl : k = (r.hosts).length := by simp at h; omega
    subst hkl
    simp only [h]
    simp [List.take_length, List.drop_length, Tryz.ntmps184, Tryz.results184]
    rw [List.take_length] at hi
    have hh := hi
    refine LoopW.inv mixed (Plain.retC _ _ _ _ _) rfl (ι := {k : Nat // k ≤ (r.rules).length ∧ (r.rules.take k).all splitB = true}) (fun k => [(1, .ptr 64 0), (4, int k.1)]) (fun k => [(64, .cells ((resC r).map .d) 51)]) 65 (fun k => (r.rules).length - k.1) ⟨0, by omega, by simp⟩ [] (by constructor <;> simp) ?_
    rintro ⟨k, hk1, hi⟩ B hB
    refine CW.run 9999 400 rfl ?_
    simp [Tryz.ntmps184, Tryz.results184]
    refine run_br_split (fun h => ?_) (fun h => ?_)
    · have hk : k < (r.rules).length := by simpa using h
      have hr : (r.rules)[k]? = some (r.rules)[k] := List.getElem?_eq_getElem hk
      have hm : (r.rules)[k] ∈ (r.rules) := List.getElem_mem hk
      have ht : (r.rules).take (k + 1) = (r.rules).take k ++ [(r.rules)[k]] := by rw [List.take_add_one, hr]; rfl
      have hd : (r.rules).drop k = (r.rules)[k] :: (r.rules).drop (k + 1) := List.drop_eq_getElem_cons hk
      have hw : IntKind.wrap .i64 ((k : Int) + 1) = k + 1 := wrap_i64 (by omega) (by omega)
      obtain ⟨x, hx⟩ : ∃ x0, (r.rules)[k] = x0 := ⟨_, rfl⟩
      rw [hx] at hr hm ht hd
      simp only [h]
      simp [hr, hw, Tryz.ntmps184, Tryz.results184]
      have ef : splitB x = false → r.rules.all splitB = false := fun e => by
        rw [List.all_eq_false]; exact ⟨x, hm, by simp [e]⟩
      refine run_br_split (fun h9 => ?_) (fun h9 => ?_) <;> simp only [h9] <;> simp [hr, Tryz.ntmps184, Tryz.results184] <;> (try simp only [Bool.not_eq_true', Bool.not_eq_false', decide_eq_true_eq, decide_eq_false_iff_not] at h9)
      · have hz : ¬ x.split.length ≤ 4 := by omega
        have e1 : splitB x = false := by simp [splitB, hz]
        first | (exact fin0 (by simp [smallB, ef e1]) rfl) | (refine ⟨by decide +kernel, ?_⟩; exact fin0 (by simp [smallB, ef e1]) rfl)
      have hz9 : x.split.length ≤ 4 := by omega
      refine LoopW.inv mixed (Plain.retC _ _ _ _ _) rfl (ι := {kj : Nat // kj ≤ (x.split).length ∧ (x.split.take kj).all (fun w => rngB w.w 100) = true}) (fun kj => [(1, .ptr 64 0), (4, int k), (5, int kj.1)]) (fun kj => [(64, .cells ((resC r).map .d) 51)]) 65 (fun kj => (x.split).length - kj.1) ⟨0, by omega, by simp⟩ [] (by constructor <;> simp [hr]) ?_
      rintro ⟨kj, hk1j, hij⟩ Bj hBj
      refine CW.run 9999 400 rfl ?_
      simp [hr, Tryz.ntmps184, Tryz.results184]
      refine run_br_split (fun hj => ?_) (fun hj => ?_)
      · have hkj : kj < (x.split).length := by simpa using hj
        have hrj : (x.split)[kj]? = some (x.split)[kj] := List.getElem?_eq_getElem hkj
        have hmj : (x.split)[kj] ∈ (x.split) := List.getElem_mem hkj
        have htj : (x.split).take (kj + 1) = (x.split).take kj ++ [(x.split)[kj]] := by rw [List.take_add_one, hrj]; rfl
        have hdj : (x.split).drop kj = (x.split)[kj] :: (x.split).drop (kj + 1) := List.drop_eq_getElem_cons hkj
        have hwj : IntKind.wrap .i64 ((kj : Int) + 1) = kj + 1 := wrap_i64 (by omega) (by omega)
        obtain ⟨w, hxj⟩ : ∃ x0, (x.split)[kj] = x0 := ⟨_, rfl⟩
        rw [hxj] at hrj hmj htj hdj
        simp only [hj]
        simp [hrj, hwj, hr, Tryz.ntmps184, Tryz.results184]
        have eg : rngB w.w 100 = false → splitB x = false := fun e => by
          have : (x.split.all fun w => rngB w.w 100) = false := by
            rw [List.all_eq_false]; exact ⟨w, hmj, by simp [e]⟩
          simp only [splitB, this, Bool.and_false]
        refine run_gd_split (fun h10 => ?_) (fun h10 => ?_) <;> simp only [h10] <;> simp [hr, hrj, Tryz.ntmps184, Tryz.results184] <;> (try simp only [Bool.not_eq_true', Bool.not_eq_false', decide_eq_true_eq, decide_eq_false_iff_not] at h10)
        · first | (exact fin0 (by simp [smallB, ef (eg (rng_not.2 (.inl h10)))]) rfl) | (refine ⟨by decide +kernel, ?_⟩; exact fin0 (by simp [smallB, ef (eg (rng_not.2 (.inl h10)))]) rfl)
        refine run_br_split (fun h11 => ?_) (fun h11 => ?_) <;> simp only [h11] <;> simp [Tryz.ntmps184, Tryz.results184] <;> (try simp only [Bool.not_eq_true', Bool.not_eq_false', decide_eq_true_eq, decide_eq_false_iff_not] at h11)
        · first | (exact fin0 (by simp [smallB, ef (eg (rng_not.2 (.inr h11)))]) rfl) | (refine ⟨by decide +kernel, ?_⟩; exact fin0 (by simp [smallB, ef (eg (rng_not.2 (.inr h11)))]) rfl)
        · refine hBj _ ⟨kj + 1, by omega, by simp [htj, hij, rng_yes.2 ⟨Int.not_lt.1 h10, Int.not_lt.1 h11⟩]⟩ [] ?_ (by simp; omega)
          constructor <;> simp [hwj, htj, rng_yes.2 ⟨Int.not_lt.1 h10, Int.not_lt.1 h11⟩]
      · have hklj : kj = (x.split).length := by simp at hj; omega
        subst hklj
        simp only [hj]
        simp [List.take_length, List.drop_length, hw, Tryz.ntmps184, Tryz.results184]
        rw [List.take_length] at hij
        have e1 : splitB x = true := by simp only [splitB, hij, hz9, decide_true, Bool.and_true]
        refine hB _ ⟨k + 1, by omega, by simp [ht, hi, e1]⟩ [] ?_ (by simp; omega)
        constructor <;> simp [hw, ht, e1]
    · have hkl : k = (r.rules).length := by simp at h; omega
      subst hkl
      simp only [h]
      simp [List.take_length, List.drop_length, Tryz.ntmps184, Tryz.results184]
      rw [List.take_length] at hi
      first | (exact fin0 (by simp [smallB, hi, hh, r1, r2, hz5, hz6]) rfl) | (refine ⟨by decide +kernel, ?_⟩; exact fin0 (by simp [smallB, hi, hh, r1, r2, hz5, hz6]) rfl)
theorem tmod_mayT {k : Int} (h : 0 ≤ k ∧ k ≤ 3) : decide (k.tmod 2 = 0) = mayT k := by
  have : k = 0 ∨ k = 1 ∨ k = 2 ∨ k = 3 := by omega
  rcases this with rfl | rfl | rfl | rfl <;> decide
theorem names_r3 (r : Res) (hk : 0 ≤ r.kind ∧ r.kind ≤ 3) (hl : r.rules.length ≤ 8 ∧ ∀ x ∈ r.rules, x.split.length ≤ 4) : Ct Tryz.prog 185 [st (resC r)] [] [] (bool (namedB r)) [] := by
  refine Ct.of_body Tryz.func185 rfl mixed (by rw [Tryz.ntmps185]; simp) (CW.run 9999 400 rfl ?_)
  simp [Tryz.ntmps185, Tryz.results185]
  obtain ⟨hl1, hl2⟩ := hl
  rw [tmod_mayT hk]
  refine run_gd_split (fun h1 => ?_) (fun h1 => ?_) <;> simp only [h1] <;> simp [Tryz.ntmps185, Tryz.results185] <;> (try simp only [Bool.not_eq_true', Bool.not_eq_false', decide_eq_true_eq, decide_eq_false_iff_not] at h1)
  · refine CW.callP (nameSane_r r.to) Tryz.call183 rfl rfl rfl (by first | exact .inl rfl | exact .inr ⟨_, _, rfl, by simp⟩ | exact .inr ⟨_, _, rfl, by simp [*]⟩) rfl (by simp) rfl rfl (CW.runOps 9999 400 rfl ?_)
    simp [Tryz.ntmps185, Tryz.results185]
    refine run_br_split (fun h2 => ?_) (fun h2 => ?_) <;> simp only [h2] <;> simp [Tryz.ntmps185, Tryz.results185] <;> (try simp only [Bool.not_eq_true', Bool.not_eq_false', decide_eq_true_eq, decide_eq_false_iff_not] at h2)
    · first | (exact fin0 (by simp [namedB, h1, h2]) rfl) | (refine ⟨by decide +kernel, ?_⟩; exact fin0 (by simp [namedB, h1, h2]) rfl)
    refine LoopW.inv mixed (Plain.retC _ _ _ _ _) rfl (ι := {k : Nat // k ≤ (r.rules).length ∧ (r.rules.take k).all ruleB = true}) (fun k => [(1, .ptr 64 0), (3, int k.1)]) (fun k => [(64, .cells ((resC r).map .d) 51)]) 65 (fun k => (r.rules).length - k.1) ⟨0, by omega, by simp⟩ [] (by constructor <;> simp) ?_
    rintro ⟨k, hk1, hi⟩ B hB
    refine CW.run 9999 400 rfl ?_
    simp [Tryz.ntmps185, Tryz.results185]
    refine run_br_split (fun h => ?_) (fun h => ?_)
    · have hk : k < (r.rules).length := by simpa using h
      have hr : (r.rules)[k]? = some (r.rules)[k] := List.getElem?_eq_getElem hk
      have hm : (r.rules)[k] ∈ (r.rules) := List.getElem_mem hk
      have ht : (r.rules).take (k + 1) = (r.rules).take k ++ [(r.rules)[k]] := by rw [List.take_add_one, hr]; rfl
      have hd : (r.rules).drop k = (r.rules)[k] :: (r.rules).drop (k + 1) := List.drop_eq_getElem_cons hk
      have hw : IntKind.wrap .i64 ((k : Int) + 1) = k + 1 := wrap_i64 (by omega) (by omega)
      obtain ⟨x, hx⟩ : ∃ x0, (r.rules)[k] = x0 := ⟨_, rfl⟩
      rw [hx] at hr hm ht hd
      simp only [h]
      simp [hr, hw, Tryz.ntmps185, Tryz.results185]
      have ef : ruleB x = false → namedB r = false := fun e => by
        have : r.rules.all ruleB = false := by rw [List.all_eq_false]; exact ⟨x, hm, by simp [e]⟩
        simp only [namedB, this, Bool.and_false]
      refine CW.callP (host_r x.host) Tryz.call195 rfl rfl rfl (by first | exact .inl rfl | exact .inr ⟨_, _, rfl, by simp⟩ | exact .inr ⟨_, _, rfl, by simp [*]⟩) rfl (by simp) rfl rfl (CW.runOps 9999 400 rfl ?_)
      simp [Tryz.ntmps185, Tryz.results185]
      refine run_gd_split (fun h3 => ?_) (fun h3 => ?_) <;> simp only [h3] <;> simp [Tryz.ntmps185, Tryz.results185] <;> (try simp only [Bool.not_eq_true', Bool.not_eq_false', decide_eq_true_eq, decide_eq_false_iff_not] at h3)
      · first | (exact fin0 (by simp [ef (by simp only [ruleB, h3, Bool.false_and])]) rfl) | (refine ⟨by decide +kernel, ?_⟩; exact fin0 (by simp [ef (by simp only [ruleB, h3, Bool.false_and])]) rfl)
      simp [hr, Tryz.ntmps185, Tryz.results185]
      refine CW.callP (path_r x.pre) Tryz.call196 rfl rfl rfl (by first | exact .inl rfl | exact .inr ⟨_, _, rfl, by simp⟩ | exact .inr ⟨_, _, rfl, by simp [*]⟩) rfl (by simp) rfl rfl (CW.runOps 9999 400 rfl ?_)
      simp [Tryz.ntmps185, Tryz.results185]
      refine run_br_split (fun h4 => ?_) (fun h4 => ?_) <;> simp only [h4] <;> simp [Tryz.ntmps185, Tryz.results185] <;> (try simp only [Bool.not_eq_true', Bool.not_eq_false', decide_eq_true_eq, decide_eq_false_iff_not] at h4)
      · first | (exact fin0 (by simp [ef (by simp only [ruleB, h4, Bool.and_false, Bool.false_and])]) rfl) | (refine ⟨by decide +kernel, ?_⟩; exact fin0 (by simp [ef (by simp only [ruleB, h4, Bool.and_false, Bool.false_and])]) rfl)
      have hx := hl2 x hm
      refine LoopW.inv mixed (Plain.retC _ _ _ _ _) rfl (ι := {kj : Nat // kj ≤ (x.split).length ∧ (x.split.take kj).all (fun w => nameB w.cluster) = true}) (fun kj => [(1, .ptr 64 0), (3, int k), (4, int kj.1)]) (fun kj => [(64, .cells ((resC r).map .d) 51)]) 65 (fun kj => (x.split).length - kj.1) ⟨0, by omega, by simp⟩ [] (by constructor <;> simp [hr]) ?_
      rintro ⟨kj, hk1j, hij⟩ Bj hBj
      refine CW.run 9999 400 rfl ?_
      simp [hr, Tryz.ntmps185, Tryz.results185]
      refine run_br_split (fun hj => ?_) (fun hj => ?_)
      · have hkj : kj < (x.split).length := by simpa using hj
        have hrj : (x.split)[kj]? = some (x.split)[kj] := List.getElem?_eq_getElem hkj
        have hmj : (x.split)[kj] ∈ (x.split) := List.getElem_mem hkj
        have htj : (x.split).take (kj + 1) = (x.split).take kj ++ [(x.split)[kj]] := by rw [List.take_add_one, hrj]; rfl
        have hdj : (x.split).drop kj = (x.split)[kj] :: (x.split).drop (kj + 1) := List.drop_eq_getElem_cons hkj
        have hwj : IntKind.wrap .i64 ((kj : Int) + 1) = kj + 1 := wrap_i64 (by omega) (by omega)
        obtain ⟨w, hxj⟩ : ∃ x0, (x.split)[kj] = x0 := ⟨_, rfl⟩
        rw [hxj] at hrj hmj htj hdj
        simp only [hj]
        simp [hrj, hwj, hr, Tryz.ntmps185, Tryz.results185]
        refine CW.callP (nameSane_r w.cluster) Tryz.call183 rfl rfl rfl (by first | exact .inl rfl | exact .inr ⟨_, _, rfl, by simp⟩ | exact .inr ⟨_, _, rfl, by simp [*]⟩) rfl (by simp) rfl rfl (CW.runOps 9999 400 rfl ?_)
        simp [Tryz.ntmps185, Tryz.results185]
        refine run_br_split (fun h5 => ?_) (fun h5 => ?_) <;> simp only [h5] <;> simp [Tryz.ntmps185, Tryz.results185] <;> (try simp only [Bool.not_eq_true', Bool.not_eq_false', decide_eq_true_eq, decide_eq_false_iff_not] at h5)
        · have e1 : (x.split.all fun w => nameB w.cluster) = false := by
            rw [List.all_eq_false]; exact ⟨w, hmj, by simp [h5]⟩
          first | (exact fin0 (by simp [ef (by simp only [ruleB, e1, Bool.and_false])]) rfl) | (refine ⟨by decide +kernel, ?_⟩; exact fin0 (by simp [ef (by simp only [ruleB, e1, Bool.and_false])]) rfl)
        · refine hBj _ ⟨kj + 1, by omega, by simp [htj, hij, h5]⟩ [] ?_ (by simp; omega)
          constructor <;> simp [hwj, htj, h5]
      · have hklj : kj = (x.split).length := by simp at hj; omega
        subst hklj
        simp only [hj]
        simp [List.take_length, List.drop_length, hw, Tryz.ntmps185, Tryz.results185]
        rw [List.take_length] at hij
        have e1 : ruleB x = true := by simp only [ruleB, hij, h3, h4, Bool.and_true]
        refine hB _ ⟨k + 1, by omega, by simp [ht, hi, e1]⟩ [] ?_ (by simp; omega)
        constructor <;> simp [hw, ht, e1]
    · have hkl : k = (r.rules).length := by simp at h; omega
      subst hkl
      simp only [h]
      simp [List.take_length, List.drop_length, Tryz.ntmps185, Tryz.results185]
      rw [List.take_length] at hi
      first | (exact fin0 (by simp [namedB, hi, h2]) rfl) | (refine ⟨by decide +kernel, ?_⟩; exact fin0 (by simp [namedB, hi, h2]) rfl)
  · refine LoopW.inv mixed (Plain.retC _ _ _ _ _) rfl (ι := {k : Nat // k ≤ (r.rules).length ∧ (r.rules.take k).all ruleB = true}) (fun k => [(1, .ptr 64 0), (3, int k.1)]) (fun k => [(64, .cells ((resC r).map .d) 51)]) 65 (fun k => (r.rules).length - k.1) ⟨0, by omega, by simp⟩ [] (by constructor <;> simp) ?_
    rintro ⟨k, hk1, hi⟩ B hB
    refine CW.run 9999 400 rfl ?_
    simp [Tryz.ntmps185, Tryz.results185]
    refine run_br_split (fun h => ?_) (fun h => ?_)
    · have hk : k < (r.rules).length := by simpa using h
      have hr : (r.rules)[k]? = some (r.rules)[k] := List.getElem?_eq_getElem hk
      have hm : (r.rules)[k] ∈ (r.rules) := List.getElem_mem hk
      have ht : (r.rules).take (k + 1) = (r.rules).take k ++ [(r.rules)[k]] := by rw [List.take_add_one, hr]; rfl
      have hd : (r.rules).drop k = (r.rules)[k] :: (r.rules).drop (k + 1) := List.drop_eq_getElem_cons hk
      have hw : IntKind.wrap .i64 ((k : Int) + 1) = k + 1 := wrap_i64 (by omega) (by omega)
      obtain ⟨x, hx⟩ : ∃ x0, (r.rules)[k] = x0 := ⟨_, rfl⟩
      rw [hx] at hr hm ht hd
      simp only [h]
      simp [hr, hw, Tryz.ntmps185, Tryz.results185]
      have ef : ruleB x = false → namedB r = false := fun e => by
        have : r.rules.all ruleB = false := by rw [List.all_eq_false]; exact ⟨x, hm, by simp [e]⟩
        simp only [namedB, this, Bool.and_false]
      refine CW.callP (host_r x.host) Tryz.call195 rfl rfl rfl (by first | exact .inl rfl | exact .inr ⟨_, _, rfl, by simp⟩ | exact .inr ⟨_, _, rfl, by simp [*]⟩) rfl (by simp) rfl rfl (CW.runOps 9999 400 rfl ?_)
      simp [Tryz.ntmps185, Tryz.results185]
      refine run_gd_split (fun h3 => ?_) (fun h3 => ?_) <;> simp only [h3] <;> simp [Tryz.ntmps185, Tryz.results185] <;> (try simp only [Bool.not_eq_true', Bool.not_eq_false', decide_eq_true_eq, decide_eq_false_iff_not] at h3)
      · first | (exact fin0 (by simp [ef (by simp only [ruleB, h3, Bool.false_and])]) rfl) | (refine ⟨by decide +kernel, ?_⟩; exact fin0 (by simp [ef (by simp only [ruleB, h3, Bool.false_and])]) rfl)
      simp [hr, Tryz.ntmps185, Tryz.results185]
      refine CW.callP (path_r x.pre) Tryz.call196 rfl rfl rfl (by first | exact .inl rfl | exact .inr ⟨_, _, rfl, by simp⟩ | exact .inr ⟨_, _, rfl, by simp [*]⟩) rfl (by simp) rfl rfl (CW.runOps 9999 400 rfl ?_)
      simp [Tryz.ntmps185, Tryz.results185]
      refine run_br_split (fun h4 => ?_) (fun h4 => ?_) <;> simp only [h4] <;> simp [Tryz.ntmps185, Tryz.results185] <;> (try simp only [Bool.not_eq_true', Bool.not_eq_false', decide_eq_true_eq, decide_eq_false_iff_not] at h4)
      · first | (exact fin0 (by simp [ef (by simp only [ruleB, h4, Bool.and_false, Bool.false_and])]) rfl) | (refine ⟨by decide +kernel, ?_⟩; exact fin0 (by simp [ef (by simp only [ruleB, h4, Bool.and_false, Bool.false_and])]) rfl)
      have hx := hl2 x hm
      refine LoopW.inv mixed (Plain.retC _ _ _ _ _) rfl (ι := {kj : Nat // kj ≤ (x.split).length ∧ (x.split.take kj).all (fun w => nameB w.cluster) = true}) (fun kj => [(1, .ptr 64 0), (3, int k), (4, int kj.1)]) (fun kj => [(64, .cells ((resC r).map .d) 51)]) 65 (fun kj => (x.split).length - kj.1) ⟨0, by omega, by simp⟩ [] (by constructor <;> simp [hr]) ?_
      rintro ⟨kj, hk1j, hij⟩ Bj hBj
      refine CW.run 9999 400 rfl ?_
      simp [hr, Tryz.ntmps185, Tryz.results185]
      refine run_br_split (fun hj => ?_) (fun hj => ?_)
      · have hkj : kj < (x.split).length := by simpa using hj
        have hrj : (x.split)[kj]? = some (x.split)[kj] := List.getElem?_eq_getElem hkj
        have hmj : (x.split)[kj] ∈ (x.split) := List.getElem_mem hkj
        have htj : (x.split).take (kj + 1) = (x.split).take kj ++ [(x.split)[kj]] := by rw [List.take_add_one, hrj]; rfl
        have hdj : (x.split).drop kj = (x.split)[kj] :: (x.split).drop (kj + 1) := List.drop_eq_getElem_cons hkj
        have hwj : IntKind.wrap .i64 ((kj : Int) + 1) = kj + 1 := wrap_i64 (by omega) (by omega)
        obtain ⟨w, hxj⟩ : ∃ x0, (x.split)[kj] = x0 := ⟨_, rfl⟩
        rw [hxj] at hrj hmj htj hdj
        simp only [hj]
        simp [hrj, hwj, hr, Tryz.ntmps185, Tryz.results185]
        refine CW.callP (nameSane_r w.cluster) Tryz.call183 rfl rfl rfl (by first | exact .inl rfl | exact .inr ⟨_, _, rfl, by simp⟩ | exact .inr ⟨_, _, rfl, by simp [*]⟩) rfl (by simp) rfl rfl (CW.runOps 9999 400 rfl ?_)
        simp [Tryz.ntmps185, Tryz.results185]
        refine run_br_split (fun h5 => ?_) (fun h5 => ?_) <;> simp only [h5] <;> simp [Tryz.ntmps185, Tryz.results185] <;> (try simp only [Bool.not_eq_true', Bool.not_eq_false', decide_eq_true_eq, decide_eq_false_iff_not] at h5)
        · have e1 : (x.split.all fun w => nameB w.cluster) = false := by
            rw [List.all_eq_false]; exact ⟨w, hmj, by simp [h5]⟩
          first | (exact fin0 (by simp [ef (by simp only [ruleB, e1, Bool.and_false])]) rfl) | (refine ⟨by decide +kernel, ?_⟩; exact fin0 (by simp [ef (by simp only [ruleB, e1, Bool.and_false])]) rfl)
        · refine hBj _ ⟨kj + 1, by omega, by simp [htj, hij, h5]⟩ [] ?_ (by simp; omega)
          constructor <;> simp [hwj, htj, h5]
      · have hklj : kj = (x.split).length := by simp at hj; omega
        subst hklj
        simp only [hj]
        simp [List.take_length, List.drop_length, hw, Tryz.ntmps185, Tryz.results185]
        rw [List.take_length] at hij
        have e1 : ruleB x = true := by simp only [ruleB, hij, h3, h4, Bool.and_true]
        refine hB _ ⟨k + 1, by omega, by simp [ht, hi, e1]⟩ [] ?_ (by simp; omega)
        constructor <;> simp [hw, ht, e1]
    · have hkl : k = (r.rules).length := by simp at h; omega
      subst hkl
      simp only [h]
      simp [List.take_length, List.drop_length, Tryz.ntmps185, Tryz.results185]
      rw [List.take_length] at hi
      first | (exact fin0 (by simp [namedB, hi, h1]) rfl) | (refine ⟨by decide +kernel, ?_⟩; exact fin0 (by simp [namedB, hi, h1]) rfl)
def sumW (l : List Weight) : Int := (l.map (·.w)).sum
theorem sumW_bd : ∀ {l : List Weight}, l.all (fun w => rngB w.w 100) = true → 0 ≤ sumW l ∧ sumW l ≤ 100 * l.length
  | [], _ => by simp [sumW]
  | w :: l, h => by
    rw [List.all_cons, Bool.and_eq_true, rng_yes] at h
    have := sumW_bd h.2
    simp only [sumW, List.map_cons, List.sum_cons, List.length_cons] at this ⊢
    omega
theorem sumW_zero : ∀ {l : List Weight}, l.all (fun w => rngB w.w 100) = true → (sumW l = 0 ↔ (l.any fun w => decide (0 < w.w)) = false)
  | [], _ => by simp [sumW]
  | w :: l, h => by
    rw [List.all_cons, Bool.and_eq_true, rng_yes] at h
    have h1 := sumW_bd h.2
    have h2 := sumW_zero h.2
    rw [List.any_cons, Bool.or_eq_false_iff, ← h2, decide_eq_false_iff_not]
    simp only [sumW, List.map_cons, List.sum_cons] at h1 ⊢
    omega
@[simp] theorem sumW_nil : sumW [] = 0 := rfl
theorem sumW_snoc (l : List Weight) (w : Weight) : sumW (l ++ [w]) = sumW l + w.w := by simp [sumW]
theorem split_bd {x : Rule} (h : splitB x = true) : x.split.length ≤ 4 ∧ x.split.all (fun w => rngB w.w 100) = true := by
  simpa [splitB] using h
theorem small_splits {r : Res} (h : smallB r = true) : ∀ x ∈ r.rules, splitB x = true := by
  simp only [smallB, Bool.and_eq_true, List.all_eq_true] at h
  exact h.2
theorem twice_r (r : Res) (hs : smallB r = true) : Ct Tryz.prog 186 [st (resC r)] [] [] (bool (!singleB r)) [] := by
  refine Ct.of_body Tryz.func186 rfl mixed (by rw [Tryz.ntmps186]; simp) (CW.run 9999 400 rfl ?_)
  simp [Tryz.ntmps186, Tryz.results186]
  have hb := small_bounds hs
  have hsp := small_splits hs
  obtain ⟨hl1, hl2, hl3⟩ := hb
  refine LoopW.inv mixed (Plain.retC _ _ _ _ _) rfl (ι := {k : Nat // k ≤ (r.rules).length ∧ ((r.rules.take k).all weighsB = true ∧ aloneG sameR (r.rules.take k) (r.rules.drop k) = aloneG sameR [] r.rules)}) (fun k => [(1, .ptr 64 0), (3, int k.1)]) (fun k => [(64, .cells ((resC r).map .d) 51)]) 65 (fun k => (r.rules).length - k.1) ⟨0, by omega, by simp⟩ [] (by constructor <;> simp) ?_
  rintro ⟨k, hk1, hi⟩ B hB
  refine CW.run 9999 400 rfl ?_
  simp [Tryz.ntmps186, Tryz.results186]
  refine run_br_split (fun h => ?_) (fun h => ?_)
  · have hk : k < (r.rules).length := by simpa using h
    have hr : (r.rules)[k]? = some (r.rules)[k] := List.getElem?_eq_getElem hk
    have hm : (r.rules)[k] ∈ (r.rules) := List.getElem_mem hk
    have ht : (r.rules).take (k + 1) = (r.rules).take k ++ [(r.rules)[k]] := by rw [List.take_add_one, hr]; rfl
    have hd : (r.rules).drop k = (r.rules)[k] :: (r.rules).drop (k + 1) := List.drop_eq_getElem_cons hk
    have hw : IntKind.wrap .i64 ((k : Int) + 1) = k + 1 := wrap_i64 (by omega) (by omega)
    obtain ⟨x, hx⟩ : ∃ x0, (r.rules)[k] = x0 := ⟨_, rfl⟩
    rw [hx] at hr hm ht hd
    simp only [h]
    simp [hr, hw, Tryz.ntmps186, Tryz.results186]
    obtain ⟨hi1, hi2⟩ := hi
    rw [hd, aloneG] at hi2
    obtain ⟨hx, hx2⟩ := split_bd (hsp x hm)
    refine LoopW.inv mixed (Plain.retC _ _ _ _ _) rfl (ι := {kj : Nat // kj ≤ (x.split).length}) (fun kj => [(1, .ptr 64 0), (3, int k), (4, int (sumW (x.split.take kj.1))), (5, int kj.1)]) (fun kj => [(64, .cells ((resC r).map .d) 51)]) 65 (fun kj => (x.split).length - kj.1) ⟨0, by omega⟩ [] (by constructor <;> simp [hr]) ?_
    rintro ⟨kj, hk1j⟩ Bj hBj
    refine CW.run 9999 400 rfl ?_
    simp [hr, Tryz.ntmps186, Tryz.results186]
    refine run_br_split (fun hj => ?_) (fun hj => ?_)
    · have hkj : kj < (x.split).length := by simpa using hj
      have hrj : (x.split)[kj]? = some (x.split)[kj] := List.getElem?_eq_getElem hkj
      have hmj : (x.split)[kj] ∈ (x.split) := List.getElem_mem hkj
      have htj : (x.split).take (kj + 1) = (x.split).take kj ++ [(x.split)[kj]] := by rw [List.take_add_one, hrj]; rfl
      have hdj : (x.split).drop kj = (x.split)[kj] :: (x.split).drop (kj + 1) := List.drop_eq_getElem_cons hkj
      have hwj : IntKind.wrap .i64 ((kj : Int) + 1) = kj + 1 := wrap_i64 (by omega) (by omega)
      obtain ⟨w, hxj⟩ : ∃ x0, (x.split)[kj] = x0 := ⟨_, rfl⟩
      rw [hxj] at hrj hmj htj hdj
      simp only [hj]
      simp [hrj, hwj, hr, Tryz.ntmps186, Tryz.results186]
      have hq : (x.split.take (kj + 1)).all (fun w => rngB w.w 100) = true := by
        rw [List.all_eq_true] at hx2 ⊢
        exact fun w hw => hx2 w (List.mem_of_mem_take hw)
      have hq2 := sumW_bd hq
      rw [htj, sumW_snoc] at hq2
      have hwr : IntKind.wrap .i64 (sumW (x.split.take kj) + w.w) = sumW (x.split.take kj) + w.w := wrap_i64 (by omega) (by simp at hq2; omega)
      refine hBj _ ⟨kj + 1, by omega⟩ [] ?_ (by simp; omega)
      constructor <;> simp [hwj, htj, hwr, sumW_snoc]
    · have hklj : kj = (x.split).length := by simp at hj; omega
      subst hklj
      simp only [hj]
      simp [List.take_length, List.drop_length, Tryz.ntmps186, Tryz.results186]
      refine run_br_split (fun h1 => ?_) (fun h1 => ?_) <;> simp only [h1] <;> simp [Tryz.ntmps186, Tryz.results186] <;> (try simp only [Bool.not_eq_true', Bool.not_eq_false', decide_eq_true_eq, decide_eq_false_iff_not] at h1)
      · have e1 : weighsB x = false := (sumW_zero hx2).1 h1
        have e : r.rules.all weighsB = false := by rw [List.all_eq_false]; exact ⟨x, hm, by simp [e1]⟩
        first | (exact fin0 (by simp [singleB, e]) rfl) | (refine ⟨by decide +kernel, ?_⟩; exact fin0 (by simp [singleB, e]) rfl)
      have h1' : weighsB x = true := by
        cases hh : weighsB x
        · exact absurd ((sumW_zero hx2).2 hh) h1
        · rfl
      refine LoopW.inv mixed (Plain.retC _ _ _ _ _) rfl (ι := {j : Nat // j ≤ k ∧ (r.rules.take j).any (sameR x) = false}) (fun kj => [(1, .ptr 64 0), (3, int k), (6, int kj.1)]) (fun kj => [(64, .cells ((resC r).map .d) 51)]) 65 (fun kj => k - kj.1) ⟨0, by omega, by simp⟩ [] (by constructor <;> simp) ?_
      rintro ⟨j, hj, hij⟩ Bj hBj
      refine CW.run 9999 400 rfl ?_
      simp [Tryz.ntmps186, Tryz.results186]
      refine run_br_split (fun hjk => ?_) (fun hjk => ?_)
      · have hjk' : j < k := by have := of_decide_eq_true hjk; omega
        have hrj : r.rules[j]? = some r.rules[j] := List.getElem?_eq_getElem (by omega)
        have htj : r.rules.take (j + 1) = r.rules.take j ++ [r.rules[j]] := by rw [List.take_add_one, hrj]; rfl
        have hwj : IntKind.wrap .i64 ((j : Int) + 1) = j + 1 := wrap_i64 (by omega) (by omega)
        have hmj : j < k → r.rules[j] ∈ r.rules.take k := fun _ => by
          rw [List.mem_take_iff_getElem]; exact ⟨j, by omega, rfl⟩
        generalize r.rules[j] = y at hrj htj hmj
        simp only [hjk]
        simp [hr, hrj, hwj, Tryz.ntmps186, Tryz.results186]
        refine run_gd_split (fun h3 => ?_) (fun h3 => ?_) <;> simp only [h3] <;> simp [hr, hrj, hwj, Tryz.ntmps186, Tryz.results186] <;> (try simp only [Bool.not_eq_true', Bool.not_eq_false', decide_eq_true_eq, decide_eq_false_iff_not] at h3)
        · refine ⟨by decide +kernel, ?_⟩
          refine run_br_split (fun h4 => ?_) (fun h4 => ?_) <;> simp only [h4] <;> simp [hr, hrj, hwj, Tryz.ntmps186, Tryz.results186] <;> (try simp only [Bool.not_eq_true', Bool.not_eq_false', decide_eq_true_eq, decide_eq_false_iff_not] at h4)
          · have e1 : (r.rules.take k).any (sameR x) = true := by
              rw [List.any_eq_true]; exact ⟨y, hmj hjk', by simp [sameR, h3, h4]⟩
            have e : aloneG sameR [] r.rules = false := by rw [← hi2, e1]; rfl
            first | (exact fin0 (by simp [singleB, e]) rfl) | (refine ⟨by decide +kernel, ?_⟩; exact fin0 (by simp [singleB, e]) rfl)
          · refine hBj _ ⟨j + 1, by omega, by rw [htj]; simp [hij, sameR, h4]⟩ [] ?_ (by simp; omega)
            constructor <;> simp [hwj]
        · refine ⟨by decide +kernel, ?_⟩
          refine hBj _ ⟨j + 1, by omega, by rw [htj]; simp [hij, sameR, h3]⟩ [] ?_ (by simp; omega)
          constructor <;> simp [hwj]
      · have hjk' : j = k := by have := of_decide_eq_false hjk; omega
        rw [hjk'] at hij
        simp only [hjk]
        simp [hw, Tryz.ntmps186, Tryz.results186]
        refine hB _ ⟨k + 1, by omega, by simp [ht, hi1, h1'], by rw [ht, ← hi2, hij]; rfl⟩ [] ?_ (by simp; omega)
        constructor <;> simp [hw]
  · have hkl : k = (r.rules).length := by simp at h; omega
    subst hkl
    simp only [h]
    simp [List.take_length, List.drop_length, Tryz.ntmps186, Tryz.results186]
    rw [List.take_length, List.drop_length] at hi
    obtain ⟨hi1, hi2⟩ := hi
    simp only [aloneG] at hi2
    refine LoopW.inv mixed (Plain.retC _ _ _ _ _) rfl (ι := {k : Nat // k ≤ (r.hosts).length ∧ (aloneG (fun a b : Int => decide (a = b)) (r.hosts.take k) (r.hosts.drop k) = aloneG (fun a b => decide (a = b)) [] r.hosts)}) (fun k => [(1, .ptr 64 0), (7, int k.1)]) (fun k => [(64, .cells ((resC r).map .d) 51)]) 65 (fun k => (r.hosts).length - k.1) ⟨0, by omega, by simp⟩ [] (by constructor <;> simp) ?_
    rintro ⟨k, hk1, hi⟩ B hB
    refine CW.run 9999 400 rfl ?_
    simp [Tryz.ntmps186, Tryz.results186]
    refine run_br_split (fun h => ?_) (fun h => ?_)
    · have hk : k < (r.hosts).length := by simpa using h
      have hr : (r.hosts)[k]? = some (r.hosts)[k] := List.getElem?_eq_getElem hk
      have hm : (r.hosts)[k] ∈ (r.hosts) := List.getElem_mem hk
      have ht : (r.hosts).take (k + 1) = (r.hosts).take k ++ [(r.hosts)[k]] := by rw [List.take_add_one, hr]; rfl
      have hd : (r.hosts).drop k = (r.hosts)[k] :: (r.hosts).drop (k + 1) := List.drop_eq_getElem_cons hk
      have hw : IntKind.wrap .i64 ((k : Int) + 1) = k + 1 := wrap_i64 (by omega) (by omega)
      obtain ⟨x, hx⟩ : ∃ x0, (r.hosts)[k] = x0 := ⟨_, rfl⟩
      rw [hx] at hr hm ht hd
      simp only [h]
      simp [hr, hw, Tryz.ntmps186, Tryz.results186]
      rw [hd, aloneG] at hi
      refine LoopW.inv mixed (Plain.retC _ _ _ _ _) rfl (ι := {j : Nat // j ≤ k ∧ ((r.hosts.take j).any fun y => decide (x = y)) = false}) (fun kj => [(1, .ptr 64 0), (7, int k), (8, int kj.1)]) (fun kj => [(64, .cells ((resC r).map .d) 51)]) 65 (fun kj => k - kj.1) ⟨0, by omega, by simp⟩ [] (by constructor <;> simp) ?_
      rintro ⟨j, hj, hij⟩ Bj hBj
      refine CW.run 9999 400 rfl ?_
      simp [Tryz.ntmps186, Tryz.results186]
      refine run_br_split (fun hjk => ?_) (fun hjk => ?_)
      · have hjk' : j < k := by have := of_decide_eq_true hjk; omega
        have hrj : r.hosts[j]? = some r.hosts[j] := List.getElem?_eq_getElem (by omega)
        have htj : r.hosts.take (j + 1) = r.hosts.take j ++ [r.hosts[j]] := by rw [List.take_add_one, hrj]; rfl
        have hwj : IntKind.wrap .i64 ((j : Int) + 1) = j + 1 := wrap_i64 (by omega) (by omega)
        have hmj : j < k → r.hosts[j] ∈ r.hosts.take k := fun _ => by
          rw [List.mem_take_iff_getElem]; exact ⟨j, by omega, rfl⟩
        generalize r.hosts[j] = y at hrj htj hmj
        simp only [hjk]
        simp [hr, hrj, hwj, Tryz.ntmps186, Tryz.results186]
        refine ⟨by decide +kernel, ?_⟩
        refine run_br_split (fun h4 => ?_) (fun h4 => ?_) <;> simp only [h4] <;> simp [hr, hrj, hwj, Tryz.ntmps186, Tryz.results186] <;> (try simp only [Bool.not_eq_true', Bool.not_eq_false', decide_eq_true_eq, decide_eq_false_iff_not] at h4)
        · have e1 : ((r.hosts.take k).any fun y => decide (x = y)) = true := by
            rw [List.any_eq_true]; exact ⟨y, hmj hjk', by simp [h4]⟩
          have e : aloneG (fun a b : Int => decide (a = b)) [] r.hosts = false := by rw [← hi, e1]; rfl
          first | (exact fin0 (by simp [singleB, e]) rfl) | (refine ⟨by decide +kernel, ?_⟩; exact fin0 (by simp [singleB, e]) rfl)
        · refine hBj _ ⟨j + 1, by omega, by rw [htj]; simp only [List.any_append, hij, List.any_cons, List.any_nil, h4, decide_false, Bool.or_false]⟩ [] ?_ (by simp; omega)
          constructor <;> simp [hwj]
      · have hjk' : j = k := by have := of_decide_eq_false hjk; omega
        rw [hjk'] at hij
        simp only [hjk]
        simp [hw, Tryz.ntmps186, Tryz.results186]
        refine hB _ ⟨k + 1, by omega, by rw [ht, ← hi, hij]; rfl⟩ [] ?_ (by simp; omega)
        constructor <;> simp [hw]
    · have hkl : k = (r.hosts).length := by simp at h; omega
      subst hkl
      simp only [h]
      simp [List.take_length, List.drop_length, Tryz.ntmps186, Tryz.results186]
      rw [List.take_length, List.drop_length] at hi
      simp only [aloneG] at hi
      first | (exact fin0 (by simp [singleB, hi1, ← hi2, ← hi]) rfl) | (refine ⟨by decide +kernel, ?_⟩; exact fin0 (by simp [singleB, hi1, ← hi2, ← hi]) rfl)
theorem bs_nil (s : Str) : (bs s = []) = (s = ⟨#[]⟩) := by rw [str_eq]; rfl
theorem sane_r (r : Res) : Ct Tryz.prog 172 [st (resC r)] [] [] (int (saneE r)) [] := by
  refine Ct.of_body Tryz.func172 rfl mixed (by rw [Tryz.ntmps172]; simp) (CW.run 9999 400 rfl ?_)
  simp [Tryz.ntmps172, Tryz.results172]
  have ht0 := bs_nil r.to
  refine run_gd_split (fun h1 => ?_) (fun h1 => ?_) <;> simp only [h1] <;> simp [Tryz.ntmps172, Tryz.results172] <;> (try simp only [Bool.not_eq_true', Bool.not_eq_false', decide_eq_true_eq, decide_eq_false_iff_not] at h1)
  · first | (exact fin0 (by simp [saneE, rng_not.2 (.inl h1)]) rfl) | (refine ⟨by decide +kernel, ?_⟩; exact fin0 (by simp [saneE, rng_not.2 (.inl h1)]) rfl)
  refine run_br_split (fun h1' => ?_) (fun h1' => ?_) <;> simp only [h1'] <;> simp [Tryz.ntmps172, Tryz.results172] <;> (try simp only [Bool.not_eq_true', Bool.not_eq_false', decide_eq_true_eq, decide_eq_false_iff_not] at h1')
  · first | (exact fin0 (by simp [saneE, rng_not.2 (.inr h1')]) rfl) | (refine ⟨by decide +kernel, ?_⟩; exact fin0 (by simp [saneE, rng_not.2 (.inr h1')]) rfl)
  have hk0 : rngB r.kind 3 = true := rng_yes.2 ⟨Int.not_lt.1 h1, Int.not_lt.1 h1'⟩
  have hk := rng_yes.1 hk0
  refine CW.callP (nameSane_r r.name) Tryz.call183 rfl rfl rfl (by first | exact .inl rfl | exact .inr ⟨_, _, rfl, by simp⟩ | exact .inr ⟨_, _, rfl, by simp [*]⟩) rfl (by simp) rfl rfl (CW.runOps 9999 400 rfl ?_)
  simp [Tryz.ntmps172, Tryz.results172]
  refine run_br_split (fun h2 => ?_) (fun h2 => ?_) <;> simp only [h2] <;> simp [Tryz.ntmps172, Tryz.results172] <;> (try simp only [Bool.not_eq_true', Bool.not_eq_false', decide_eq_true_eq, decide_eq_false_iff_not] at h2)
  · first | (exact fin0 (by simp [saneE, hk0, h2]) rfl) | (refine ⟨by decide +kernel, ?_⟩; exact fin0 (by simp [saneE, hk0, h2]) rfl)
  refine CW.callP (big_r r) Tryz.call184 rfl rfl rfl (by first | exact .inl rfl | exact .inr ⟨_, _, rfl, by simp⟩ | exact .inr ⟨_, _, rfl, by simp [*]⟩) rfl (by simp) rfl rfl (CW.runOps 9999 400 rfl ?_)
  simp [Tryz.ntmps172, Tryz.results172]
  refine run_br_split (fun h3 => ?_) (fun h3 => ?_) <;> simp only [h3] <;> simp [Tryz.ntmps172, Tryz.results172] <;> (try simp only [Bool.not_eq_true', Bool.not_eq_false', decide_eq_true_eq, decide_eq_false_iff_not] at h3)
  · first | (exact fin0 (by simp [saneE, hk0, h2, h3]) rfl) | (refine ⟨by decide +kernel, ?_⟩; exact fin0 (by simp [saneE, hk0, h2, h3]) rfl)
  have hb := small_bounds h3
  have good : shapedB r = true → ∀ a b : Bool, namedB r = a → singleB r = b → saneE r = if a = false then 5 else if b = false then 2 else 0 := fun hs a b h5 h6 => by
    simp [saneE, hk0, h2, h3, hs, h5, h6]
  have bad : shapedB r = false → saneE r = 2 := fun hs => by simp [saneE, hk0, h2, h3, hs]
  have hq : r.kind = 0 ∨ r.kind = 1 ∨ r.kind = 2 ∨ r.kind = 3 := by omega
  rcases hq with hq | hq | hq | hq
  · have hmt : (r.kind).tmod 2 = 0 := by rw [hq]; rfl
    simp [hq, Tryz.ntmps172, Tryz.results172]
    refine run_gd_split (fun eR => ?_) (fun eR => ?_) <;> simp only [eR] <;> simp [Tryz.ntmps172, Tryz.results172] <;> (try simp only [Bool.not_eq_true', Bool.not_eq_false', decide_eq_true_eq, decide_eq_false_iff_not] at eR)
    · have qR : ¬ (r.rules.length = 0) := by omega
      first | (exact fin0 (by simp [bad (by simp [shapedB, mayP, mayT, mayR, mayH, hq, qR])]) rfl) | (refine ⟨by decide +kernel, ?_⟩; exact fin0 (by simp [bad (by simp [shapedB, mayP, mayT, mayR, mayH, hq, qR])]) rfl)
    have qR : r.rules.length = 0 := by omega
    refine run_br_split (fun eH => ?_) (fun eH => ?_) <;> simp only [eH] <;> simp [Tryz.ntmps172, Tryz.results172] <;> (try simp only [Bool.not_eq_true', Bool.not_eq_false', decide_eq_true_eq, decide_eq_false_iff_not] at eH)
    · have qH : ¬ (r.hosts.length = 0) := by omega
      first | (exact fin0 (by simp [bad (by simp [shapedB, mayP, mayT, mayR, mayH, hq, qH])]) rfl) | (refine ⟨by decide +kernel, ?_⟩; exact fin0 (by simp [bad (by simp [shapedB, mayP, mayT, mayR, mayH, hq, qH])]) rfl)
    have qH : r.hosts.length = 0 := by omega
    have hs : shapedB r = true := by simp [shapedB, mayP, mayT, mayR, mayH, hq, qR, qH]
    refine CW.callP (names_r3 r hk ⟨hb.1, hb.2.2⟩) Tryz.call185 rfl rfl rfl (by first | exact .inl rfl | exact .inr ⟨_, _, rfl, by simp⟩ | exact .inr ⟨_, _, rfl, by simp [*]⟩) rfl (by simp [hq]) rfl rfl (CW.runOps 9999 400 rfl ?_)
    simp [hq, Tryz.ntmps172, Tryz.results172]
    refine run_br_split (fun h5 => ?_) (fun h5 => ?_) <;> simp only [h5] <;> simp [Tryz.ntmps172, Tryz.results172] <;> (try simp only [Bool.not_eq_true', Bool.not_eq_false', decide_eq_true_eq, decide_eq_false_iff_not] at h5)
    · first | (exact fin0 (by simp [good hs false (singleB r) h5 rfl]) rfl) | (refine ⟨by decide +kernel, ?_⟩; exact fin0 (by simp [good hs false (singleB r) h5 rfl]) rfl)
    refine CW.callP (twice_r r h3) Tryz.call186 rfl rfl rfl (by first | exact .inl rfl | exact .inr ⟨_, _, rfl, by simp⟩ | exact .inr ⟨_, _, rfl, by simp [*]⟩) rfl (by simp [hq]) rfl rfl (CW.runOps 9999 400 rfl ?_)
    simp [hq, Tryz.ntmps172, Tryz.results172]
    refine run_br_split (fun h6 => ?_) (fun h6 => ?_) <;> simp only [h6] <;> simp [Tryz.ntmps172, Tryz.results172] <;> (try simp only [Bool.not_eq_true', Bool.not_eq_false', decide_eq_true_eq, decide_eq_false_iff_not] at h6)
    · first | (exact fin0 (by simp [good hs true false h5 h6]) rfl) | (refine ⟨by decide +kernel, ?_⟩; exact fin0 (by simp [good hs true false h5 h6]) rfl)
    · first | (exact fin0 (by simp [good hs true true h5 h6]) rfl) | (refine ⟨by decide +kernel, ?_⟩; exact fin0 (by simp [good hs true true h5 h6]) rfl)
  · have hmt : (r.kind).tmod 2 = 1 := by rw [hq]; rfl
    simp [hq, Tryz.ntmps172, Tryz.results172]
    refine run_gd_split (fun eP => ?_) (fun eP => ?_) <;> simp only [eP] <;> simp [Tryz.ntmps172, Tryz.results172] <;> (try simp only [Bool.not_eq_true', Bool.not_eq_false', decide_eq_true_eq, decide_eq_false_iff_not] at eP)
    · have qP : ¬ (r.port = 0) := eP
      first | (exact fin0 (by simp [bad (by simp [shapedB, mayP, mayT, mayR, mayH, hq, qP])]) rfl) | (refine ⟨by decide +kernel, ?_⟩; exact fin0 (by simp [bad (by simp [shapedB, mayP, mayT, mayR, mayH, hq, qP])]) rfl)
    have qP : r.port = 0 := eP
    refine run_gd_split (fun eT => ?_) (fun eT => ?_) <;> simp only [eT] <;> simp [Tryz.ntmps172, Tryz.results172] <;> (try simp only [Bool.not_eq_true', Bool.not_eq_false', decide_eq_true_eq, decide_eq_false_iff_not] at eT)
    · have qT : ¬ (bs r.to = []) := by rw [ht0]; exact eT
      first | (exact fin0 (by simp [bad (by simp [shapedB, mayP, mayT, mayR, mayH, hq, qT])]) rfl) | (refine ⟨by decide +kernel, ?_⟩; exact fin0 (by simp [bad (by simp [shapedB, mayP, mayT, mayR, mayH, hq, qT])]) rfl)
    have qT : bs r.to = [] := by rw [ht0]; exact eT
    refine run_br_split (fun eH => ?_) (fun eH => ?_) <;> simp only [eH] <;> simp [Tryz.ntmps172, Tryz.results172] <;> (try simp only [Bool.not_eq_true', Bool.not_eq_false', decide_eq_true_eq, decide_eq_false_iff_not] at eH)
    · have qH : ¬ (r.hosts.length = 0) := by omega
      first | (exact fin0 (by simp [bad (by simp [shapedB, mayP, mayT, mayR, mayH, hq, qH])]) rfl) | (refine ⟨by decide +kernel, ?_⟩; exact fin0 (by simp [bad (by simp [shapedB, mayP, mayT, mayR, mayH, hq, qH])]) rfl)
    have qH : r.hosts.length = 0 := by omega
    have hs : shapedB r = true := by simp [shapedB, mayP, mayT, mayR, mayH, hq, qP, qT, qH]
    refine CW.callP (names_r3 r hk ⟨hb.1, hb.2.2⟩) Tryz.call185 rfl rfl rfl (by first | exact .inl rfl | exact .inr ⟨_, _, rfl, by simp⟩ | exact .inr ⟨_, _, rfl, by simp [*]⟩) rfl (by simp [hq]) rfl rfl (CW.runOps 9999 400 rfl ?_)
    simp [hq, Tryz.ntmps172, Tryz.results172]
    refine run_br_split (fun h5 => ?_) (fun h5 => ?_) <;> simp only [h5] <;> simp [Tryz.ntmps172, Tryz.results172] <;> (try simp only [Bool.not_eq_true', Bool.not_eq_false', decide_eq_true_eq, decide_eq_false_iff_not] at h5)
    · first | (exact fin0 (by simp [good hs false (singleB r) h5 rfl]) rfl) | (refine ⟨by decide +kernel, ?_⟩; exact fin0 (by simp [good hs false (singleB r) h5 rfl]) rfl)
    refine CW.callP (twice_r r h3) Tryz.call186 rfl rfl rfl (by first | exact .inl rfl | exact .inr ⟨_, _, rfl, by simp⟩ | exact .inr ⟨_, _, rfl, by simp [*]⟩) rfl (by simp [hq]) rfl rfl (CW.runOps 9999 400 rfl ?_)
    simp [hq, Tryz.ntmps172, Tryz.results172]
    refine run_br_split (fun h6 => ?_) (fun h6 => ?_) <;> simp only [h6] <;> simp [Tryz.ntmps172, Tryz.results172] <;> (try simp only [Bool.not_eq_true', Bool.not_eq_false', decide_eq_true_eq, decide_eq_false_iff_not] at h6)
    · first | (exact fin0 (by simp [good hs true false h5 h6]) rfl) | (refine ⟨by decide +kernel, ?_⟩; exact fin0 (by simp [good hs true false h5 h6]) rfl)
    · first | (exact fin0 (by simp [good hs true true h5 h6]) rfl) | (refine ⟨by decide +kernel, ?_⟩; exact fin0 (by simp [good hs true true h5 h6]) rfl)
  · have hmt : (r.kind).tmod 2 = 0 := by rw [hq]; rfl
    simp [hq, Tryz.ntmps172, Tryz.results172]
    refine run_gd_split (fun eP => ?_) (fun eP => ?_) <;> simp only [eP] <;> simp [Tryz.ntmps172, Tryz.results172] <;> (try simp only [Bool.not_eq_true', Bool.not_eq_false', decide_eq_true_eq, decide_eq_false_iff_not] at eP)
    · have qP : ¬ (r.port = 0) := eP
      first | (exact fin0 (by simp [bad (by simp [shapedB, mayP, mayT, mayR, mayH, hq, qP])]) rfl) | (refine ⟨by decide +kernel, ?_⟩; exact fin0 (by simp [bad (by simp [shapedB, mayP, mayT, mayR, mayH, hq, qP])]) rfl)
    have qP : r.port = 0 := eP
    refine run_gd_split (fun eR => ?_) (fun eR => ?_) <;> simp only [eR] <;> simp [Tryz.ntmps172, Tryz.results172] <;> (try simp only [Bool.not_eq_true', Bool.not_eq_false', decide_eq_true_eq, decide_eq_false_iff_not] at eR)
    · have qR : ¬ (r.rules.length = 0) := by omega
      first | (exact fin0 (by simp [bad (by simp [shapedB, mayP, mayT, mayR, mayH, hq, qR])]) rfl) | (refine ⟨by decide +kernel, ?_⟩; exact fin0 (by simp [bad (by simp [shapedB, mayP, mayT, mayR, mayH, hq, qR])]) rfl)
    have qR : r.rules.length = 0 := by omega
    refine run_br_split (fun eH => ?_) (fun eH => ?_) <;> simp only [eH] <;> simp [Tryz.ntmps172, Tryz.results172] <;> (try simp only [Bool.not_eq_true', Bool.not_eq_false', decide_eq_true_eq, decide_eq_false_iff_not] at eH)
    · have qH : ¬ (r.hosts.length = 0) := by omega
      first | (exact fin0 (by simp [bad (by simp [shapedB, mayP, mayT, mayR, mayH, hq, qH])]) rfl) | (refine ⟨by decide +kernel, ?_⟩; exact fin0 (by simp [bad (by simp [shapedB, mayP, mayT, mayR, mayH, hq, qH])]) rfl)
    have qH : r.hosts.length = 0 := by omega
    have hs : shapedB r = true := by simp [shapedB, mayP, mayT, mayR, mayH, hq, qP, qR, qH]
    refine CW.callP (names_r3 r hk ⟨hb.1, hb.2.2⟩) Tryz.call185 rfl rfl rfl (by first | exact .inl rfl | exact .inr ⟨_, _, rfl, by simp⟩ | exact .inr ⟨_, _, rfl, by simp [*]⟩) rfl (by simp [hq]) rfl rfl (CW.runOps 9999 400 rfl ?_)
    simp [hq, Tryz.ntmps172, Tryz.results172]
    refine run_br_split (fun h5 => ?_) (fun h5 => ?_) <;> simp only [h5] <;> simp [Tryz.ntmps172, Tryz.results172] <;> (try simp only [Bool.not_eq_true', Bool.not_eq_false', decide_eq_true_eq, decide_eq_false_iff_not] at h5)
    · first | (exact fin0 (by simp [good hs false (singleB r) h5 rfl]) rfl) | (refine ⟨by decide +kernel, ?_⟩; exact fin0 (by simp [good hs false (singleB r) h5 rfl]) rfl)
    refine CW.callP (twice_r r h3) Tryz.call186 rfl rfl rfl (by first | exact .inl rfl | exact .inr ⟨_, _, rfl, by simp⟩ | exact .inr ⟨_, _, rfl, by simp [*]⟩) rfl (by simp [hq]) rfl rfl (CW.runOps 9999 400 rfl ?_)
    simp [hq, Tryz.ntmps172, Tryz.results172]
    refine run_br_split (fun h6 => ?_) (fun h6 => ?_) <;> simp only [h6] <;> simp [Tryz.ntmps172, Tryz.results172] <;> (try simp only [Bool.not_eq_true', Bool.not_eq_false', decide_eq_true_eq, decide_eq_false_iff_not] at h6)
    · first | (exact fin0 (by simp [good hs true false h5 h6]) rfl) | (refine ⟨by decide +kernel, ?_⟩; exact fin0 (by simp [good hs true false h5 h6]) rfl)
    · first | (exact fin0 (by simp [good hs true true h5 h6]) rfl) | (refine ⟨by decide +kernel, ?_⟩; exact fin0 (by simp [good hs true true h5 h6]) rfl)
  · have hmt : (r.kind).tmod 2 = 1 := by rw [hq]; rfl
    simp [hq, Tryz.ntmps172, Tryz.results172]
    refine run_gd_split (fun eP => ?_) (fun eP => ?_) <;> simp only [eP] <;> simp [Tryz.ntmps172, Tryz.results172] <;> (try simp only [Bool.not_eq_true', Bool.not_eq_false', decide_eq_true_eq, decide_eq_false_iff_not] at eP)
    · have qP : ¬ (r.port = 0) := eP
      first | (exact fin0 (by simp [bad (by simp [shapedB, mayP, mayT, mayR, mayH, hq, qP])]) rfl) | (refine ⟨by decide +kernel, ?_⟩; exact fin0 (by simp [bad (by simp [shapedB, mayP, mayT, mayR, mayH, hq, qP])]) rfl)
    have qP : r.port = 0 := eP
    refine run_gd_split (fun eT => ?_) (fun eT => ?_) <;> simp only [eT] <;> simp [Tryz.ntmps172, Tryz.results172] <;> (try simp only [Bool.not_eq_true', Bool.not_eq_false', decide_eq_true_eq, decide_eq_false_iff_not] at eT)
    · have qT : ¬ (bs r.to = []) := by rw [ht0]; exact eT
      first | (exact fin0 (by simp [bad (by simp [shapedB, mayP, mayT, mayR, mayH, hq, qT])]) rfl) | (refine ⟨by decide +kernel, ?_⟩; exact fin0 (by simp [bad (by simp [shapedB, mayP, mayT, mayR, mayH, hq, qT])]) rfl)
    have qT : bs r.to = [] := by rw [ht0]; exact eT
    refine run_gd_split (fun eR => ?_) (fun eR => ?_) <;> simp only [eR] <;> simp [Tryz.ntmps172, Tryz.results172] <;> (try simp only [Bool.not_eq_true', Bool.not_eq_false', decide_eq_true_eq, decide_eq_false_iff_not] at eR)
    · have qR : ¬ (r.rules.length = 0) := by omega
      first | (exact fin0 (by simp [bad (by simp [shapedB, mayP, mayT, mayR, mayH, hq, qR])]) rfl) | (refine ⟨by decide +kernel, ?_⟩; exact fin0 (by simp [bad (by simp [shapedB, mayP, mayT, mayR, mayH, hq, qR])]) rfl)
    have qR : r.rules.length = 0 := by omega
    have hs : shapedB r = true := by simp [shapedB, mayP, mayT, mayR, mayH, hq, qP, qT, qR]
    refine CW.callP (names_r3 r hk ⟨hb.1, hb.2.2⟩) Tryz.call185 rfl rfl rfl (by first | exact .inl rfl | exact .inr ⟨_, _, rfl, by simp⟩ | exact .inr ⟨_, _, rfl, by simp [*]⟩) rfl (by simp [hq]) rfl rfl (CW.runOps 9999 400 rfl ?_)
    simp [hq, Tryz.ntmps172, Tryz.results172]
    refine run_br_split (fun h5 => ?_) (fun h5 => ?_) <;> simp only [h5] <;> simp [Tryz.ntmps172, Tryz.results172] <;> (try simp only [Bool.not_eq_true', Bool.not_eq_false', decide_eq_true_eq, decide_eq_false_iff_not] at h5)
    · first | (exact fin0 (by simp [good hs false (singleB r) h5 rfl]) rfl) | (refine ⟨by decide +kernel, ?_⟩; exact fin0 (by simp [good hs false (singleB r) h5 rfl]) rfl)
    refine CW.callP (twice_r r h3) Tryz.call186 rfl rfl rfl (by first | exact .inl rfl | exact .inr ⟨_, _, rfl, by simp⟩ | exact .inr ⟨_, _, rfl, by simp [*]⟩) rfl (by simp [hq]) rfl rfl (CW.runOps 9999 400 rfl ?_)
    simp [hq, Tryz.ntmps172, Tryz.results172]
    refine run_br_split (fun h6 => ?_) (fun h6 => ?_) <;> simp only [h6] <;> simp [Tryz.ntmps172, Tryz.results172] <;> (try simp only [Bool.not_eq_true', Bool.not_eq_false', decide_eq_true_eq, decide_eq_false_iff_not] at h6)
    · first | (exact fin0 (by simp [good hs true false h5 h6]) rfl) | (refine ⟨by decide +kernel, ?_⟩; exact fin0 (by simp [good hs true false h5 h6]) rfl)
    · first | (exact fin0 (by simp [good hs true true h5 h6]) rfl) | (refine ⟨by decide +kernel, ?_⟩; exact fin0 (by simp [good hs true true h5 h6]) rfl)
end Go.Proofs.YtnmocaniljacpaaGreatDoor
end
