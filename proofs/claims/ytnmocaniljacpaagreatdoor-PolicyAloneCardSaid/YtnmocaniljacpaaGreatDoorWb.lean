/-
  LAYERS 3 to 14: the walks of keys, references, configurations, frames and views, of the reference; of the program up to configurations.
-/
import Derived.Test.YtnmocaniljacpaaGreatDoorWa
import Derived.Test.YtnmocaniljacpaaGreatDoorPl
set_option linter.unusedSimpArgs false
set_option linter.unusedVariables false
section
namespace Go.Proofs.YtnmocaniljacpaaGreatDoor
open Go.AI Go.G
set_option maxRecDepth 20000
theorem key_p (r : Res) : Ct Tryz.prog 32 [st (resC r)] [] [] (st (keyC r.key)) [] := by
  refine Ct.of_body Tryz.func32 rfl mixed (by rw [Tryz.ntmps32]; simp) (CW.run 9999 400 rfl ?_)
  simp [Tryz.ntmps32, Tryz.results32]
  first | (exact fin0 (by simp [Res.key]) rfl) | (refine ⟨by decide +kernel, ?_⟩; exact fin0 (by simp [Res.key]) rfl)
theorem key_r (r : Res) : Ct Tryz.prog 110 [st (resC r)] [] [] (st (keyC r.key)) [] := by
  refine Ct.of_body Tryz.func110 rfl mixed (by rw [Tryz.ntmps110]; simp) (CW.run 9999 400 rfl ?_)
  simp [Tryz.ntmps110, Tryz.results110]
  first | (exact fin0 (by simp [Res.key]) rfl) | (refine ⟨by decide +kernel, ?_⟩; exact fin0 (by simp [Res.key]) rfl)
theorem cmpK_r (a b : Key) (hl : (bs a.name).length ≤ 9223372036854775807 ∨ (bs b.name).length ≤ 9223372036854775807) : Ct Tryz.prog 173 [st (keyC a), st (keyC b)] [] [] (int (cmpK a b)) [] := by
  refine Ct.of_body Tryz.func173 rfl mixed (by rw [Tryz.ntmps173]; simp) (CW.run 9999 400 rfl ?_)
  simp [Tryz.ntmps173, Tryz.results173]
  refine run_br_split (fun h1 => ?_) (fun h1 => ?_) <;> simp only [h1] <;> simp [Tryz.ntmps173, Tryz.results173] <;> (try simp only [Bool.not_eq_true', Bool.not_eq_false', decide_eq_true_eq, decide_eq_false_iff_not] at h1)
  · first | (exact fin0 (by simp [cmpK, h1]) rfl) | (refine ⟨by decide +kernel, ?_⟩; exact fin0 (by simp [cmpK, h1]) rfl)
  refine run_br_split (fun h2 => ?_) (fun h2 => ?_) <;> simp only [h2] <;> simp [Tryz.ntmps173, Tryz.results173] <;> (try simp only [Bool.not_eq_true', Bool.not_eq_false', decide_eq_true_eq, decide_eq_false_iff_not] at h2)
  · first | (exact fin0 (by simp [cmpK, h1, h2]) rfl) | (refine ⟨by decide +kernel, ?_⟩; exact fin0 (by simp [cmpK, h1, h2]) rfl)
  refine CW.callP (cmp_r a.name b.name hl) Tryz.call187 rfl rfl rfl (by first | exact .inl rfl | exact .inr ⟨_, _, rfl, by simp⟩ | exact .inr ⟨_, _, rfl, by simp [*]⟩) rfl (by simp) rfl rfl (CW.runOps 9999 400 rfl ?_)
  simp [Tryz.ntmps173, Tryz.results173]
  first | (exact fin0 (by simp [cmpK, h1, h2]) rfl) | (refine ⟨by decide +kernel, ?_⟩; exact fin0 (by simp [cmpK, h1, h2]) rfl)
theorem put_r (l : List Key) (k_ : Key) (hl : l.length ≤ 10000) (hk : (bs k_.name).length ≤ 9223372036854775807) : Ct Tryz.prog 176 [lst (l.map keyC), st (keyC k_)] [] [] (lst ((putK l k_).map keyC)) [] := by
  refine Ct.of_body Tryz.func176 rfl mixed (by rw [Tryz.ntmps176]; simp) (CW.run 9999 400 rfl ?_)
  simp [Tryz.ntmps176, Tryz.results176]
  refine LoopW.nilOwn 5 2 45 rfl ?_
  refine LoopW.inv mixed (Plain.retC _ _ _ _ _) rfl (ι := {p : Nat × Bool × List Key // p.1 ≤ l.length ∧ p.2.2 ++ putG k_ p.2.1 (l.drop p.1) = putK l k_ ∧ p.2.2.length ≤ 2 * p.1}) (fun k => [(0, lst (l.map keyC)), (3, .ptr 64 0), (5, .own 65), (6, bool k.1.2.1), (7, int k.1.1)]) (fun k => [(64, .cells ((keyC k_).map .d) 45), (65, .grow 2 (k.1.2.2.map keyC) 45)]) 66 (fun k => l.length - k.1.1) ⟨(0, false, []), by omega, by simp [putK], by simp⟩ [] (by constructor <;> simp) ?_
  rintro ⟨⟨i, done, out⟩, hi1, hi2, hi3⟩ B hB
  simp only at hi1 hi2 hi3
  refine CW.run 9999 400 rfl ?_
  simp [Tryz.ntmps176, Tryz.results176]
  refine run_br_split (fun h => ?_) (fun h => ?_)
  · have hk' : i < l.length := by simpa using h
    have hr : l[i]? = some l[i] := List.getElem?_eq_getElem hk'
    have hd : l.drop i = l[i] :: l.drop (i + 1) := List.drop_eq_getElem_cons hk'
    have hw : IntKind.wrap .i64 ((i : Int) + 1) = i + 1 := wrap_i64 (by omega) (by omega)
    generalize l[i] = x at hr hd
    rw [hd, putG] at hi2
    simp only [h]
    simp [hr, hw, Tryz.ntmps176, Tryz.results176]
    refine CW.callP (cmpK_r x k_ (.inr hk)) Tryz.call173 rfl rfl rfl (by first | exact .inl rfl | exact .inr ⟨_, _, rfl, by simp⟩ | exact .inr ⟨_, _, rfl, by simp [*]⟩) rfl (by simp) rfl rfl (CW.runOps 9999 400 rfl ?_)
    simp [Tryz.ntmps176, Tryz.results176]
    refine ⟨by decide +kernel, ?_⟩
    refine run_gd_split (fun h1 => ?_) (fun h1 => ?_) <;> simp only [h1] <;> simp [Tryz.ntmps176, Tryz.results176] <;> (try simp only [Bool.not_eq_true', Bool.not_eq_false', decide_eq_true_eq, decide_eq_false_iff_not] at h1)
    · cases done with
      | false =>
        simp [Tryz.ntmps176, Tryz.results176]
        refine ⟨by omega, ?_⟩
        refine run_br_split (fun h2 => ?_) (fun h2 => ?_) <;> simp only [h2] <;> simp [hr, Tryz.ntmps176, Tryz.results176] <;> (try simp only [Bool.not_eq_true', Bool.not_eq_false', decide_eq_true_eq, decide_eq_false_iff_not] at h2)
        · refine ⟨by omega, ?_⟩
          simp only [h1, h2, if_true, true_and, if_false] at hi2
          refine hB _ ⟨(i + 1, true, out ++ [k_] ++ [x]), by omega, by simpa using hi2, by simp; omega⟩ [] ?_ (by simp; omega)
          constructor <;> simp [hw]
        · simp only [h1, h2, if_true, true_and] at hi2
          refine hB _ ⟨(i + 1, true, out ++ [k_]), by omega, by simpa using hi2, by simp; omega⟩ [] ?_ (by simp; omega)
          constructor <;> simp [hw]
      | true =>
        simp [Tryz.ntmps176, Tryz.results176]
        refine run_br_split (fun h2 => ?_) (fun h2 => ?_) <;> simp only [h2] <;> simp [hr, Tryz.ntmps176, Tryz.results176] <;> (try simp only [Bool.not_eq_true', Bool.not_eq_false', decide_eq_true_eq, decide_eq_false_iff_not] at h2)
        · refine ⟨by omega, ?_⟩
          simp only [h1, h2, if_false] at hi2
          refine hB _ ⟨(i + 1, true, out ++ [x]), by omega, by simpa using hi2, by simp; omega⟩ [] ?_ (by simp; omega)
          constructor <;> simp [hw]
        · simp only [h1, h2] at hi2
          refine hB _ ⟨(i + 1, true, out), by omega, by simpa using hi2, by simp; omega⟩ [] ?_ (by simp; omega)
          constructor <;> simp [hw]
    · have h2 : ¬ cmpK x k_ = 0 := by omega
      simp [h2, hr, Tryz.ntmps176, Tryz.results176]
      refine ⟨by omega, ?_⟩
      simp only [h1, h2, if_false, false_and] at hi2
      refine hB _ ⟨(i + 1, done, out ++ [x]), by omega, by simpa using hi2, by simp; omega⟩ [] ?_ (by simp; omega)
      constructor <;> simp [hw]
  · have hil : i = l.length := by simp at h; omega
    rw [hil, List.drop_length, putG] at hi2
    simp only [h]
    cases done with
    | false =>
      simp [Tryz.ntmps176, Tryz.results176]
      refine ⟨by omega, ?_⟩
      first | (exact fin0 (by simp [← hi2]) rfl) | (refine ⟨by decide +kernel, ?_⟩; exact fin0 (by simp [← hi2]) rfl)
    | true =>
      simp [Tryz.ntmps176, Tryz.results176]
      first | (exact fin0 (by simp [← hi2]) rfl) | (refine ⟨by decide +kernel, ?_⟩; exact fin0 (by simp [← hi2]) rfl)
theorem refs_r (r : Res) : Ct Tryz.prog 174 [st (resC r)] [] [] (lst ((refsK r).map keyC)) [] := by
  refine Ct.of_body Tryz.func174 rfl mixed (by rw [Tryz.ntmps174]; simp) (CW.run 9999 400 rfl ?_)
  simp [Tryz.ntmps174, Tryz.results174]
  refine CW.callP (sane_r r) Tryz.call172 rfl rfl rfl (by first | exact .inl rfl | exact .inr ⟨_, _, rfl, by simp⟩ | exact .inr ⟨_, _, rfl, by simp [*]⟩) rfl (by simp) rfl rfl (CW.runOps 9999 400 rfl ?_)
  simp [Tryz.ntmps174, Tryz.results174]
  refine run_br_split (fun h1 => ?_) (fun h1 => ?_) <;> simp only [h1] <;> simp [Tryz.ntmps174, Tryz.results174] <;> (try simp only [Bool.not_eq_true', Bool.not_eq_false', decide_eq_true_eq, decide_eq_false_iff_not] at h1)
  · first | (exact fin0 (by simp [refsK, h1]) rfl) | (refine ⟨by decide +kernel, ?_⟩; exact fin0 (by simp [refsK, h1]) rfl)
  obtain ⟨hk0, hn, hs, hsh, hnm, hsg⟩ := sane_parts h1
  have hk := rng_yes.1 hk0
  have hb := small_bounds hs
  rw [tmod_mayT hk]
  have hsp : ∀ x ∈ r.rules, ∀ w ∈ x.split, (bs w.cluster).length ≤ 12 := by
    intro x hx w hw
    simp only [namedB, Bool.and_eq_true, List.all_eq_true, ruleB] at hnm
    exact name_le ((hnm.2 x hx).2 w hw)
  refine run_br_split (fun h2 => ?_) (fun h2 => ?_) <;> simp only [h2] <;> simp [Tryz.ntmps174, Tryz.results174] <;> (try simp only [Bool.not_eq_true', Bool.not_eq_false', decide_eq_true_eq, decide_eq_false_iff_not] at h2)
  · have h0 : refs0 r = [⟨r.kind + 1, r.to⟩] := by simp [refs0, h2]
    have hwk : IntKind.wrap .i64 (r.kind + 1) = r.kind + 1 := wrap_i64 (by omega) (by omega)
    refine LoopW.inv mixed (Plain.retC _ _ _ _ _) rfl (ι := {k : Nat // k ≤ (r.rules).length}) (fun k => [(1, .ptr 64 0), (3, lst ((refsAt r k.1).map keyC)), (4, int k.1)]) (fun k => [(64, .cells ((resC r).map .d) 51)]) 65 (fun k => (r.rules).length - k.1) ⟨0, by omega⟩ [1216] (by constructor <;> simp [refsAt_zero, h0, hwk]) ?_
    rintro ⟨k, hk1⟩ B hB
    refine CW.run 9999 400 rfl ?_
    simp [refsAt_zero, h0, hwk, Tryz.ntmps174, Tryz.results174]
    refine run_br_split (fun h => ?_) (fun h => ?_)
    · have hk : k < (r.rules).length := by simpa using h
      have hr : (r.rules)[k]? = some (r.rules)[k] := List.getElem?_eq_getElem hk
      have hm : (r.rules)[k] ∈ (r.rules) := List.getElem_mem hk
      have ht : (r.rules).take (k + 1) = (r.rules).take k ++ [(r.rules)[k]] := by rw [List.take_add_one, hr]; rfl
      have hd : (r.rules).drop k = (r.rules)[k] :: (r.rules).drop (k + 1) := List.drop_eq_getElem_cons hk
      have hw : IntKind.wrap .i64 ((k : Int) + 1) = k + 1 := wrap_i64 (by omega) (by omega)
      obtain ⟨x, hx⟩ : ∃ x0, (r.rules)[k] = x0 := ⟨_, rfl⟩
      rw [hx] at hr hm ht hd
      simp only [h]
      simp [hr, hw, Tryz.ntmps174, Tryz.results174]
      have h7 := hb.2.2 x hm
      refine LoopW.inv mixed (Plain.retC _ _ _ _ _) rfl (ι := {kj : Nat // kj ≤ (x.split).length}) (fun kj => [(1, .ptr 64 0), (3, lst (((x.split.take kj.1).foldl refsStep (refsAt r k)).map keyC)), (4, int k), (5, int kj.1)]) (fun kj => [(64, .cells ((resC r).map .d) 51)]) 65 (fun kj => (x.split).length - kj.1) ⟨0, by omega⟩ [] (by constructor <;> simp [hr]) ?_
      rintro ⟨kj, hk1j⟩ Bj hBj
      refine CW.run 9999 400 rfl ?_
      simp [hr, Tryz.ntmps174, Tryz.results174]
      refine run_br_split (fun hj => ?_) (fun hj => ?_)
      · have hkj : kj < (x.split).length := by simpa using hj
        have hrj : (x.split)[kj]? = some (x.split)[kj] := List.getElem?_eq_getElem hkj
        have hmj : (x.split)[kj] ∈ (x.split) := List.getElem_mem hkj
        have htj : (x.split).take (kj + 1) = (x.split).take kj ++ [(x.split)[kj]] := by rw [List.take_add_one, hrj]; rfl
        have hdj : (x.split).drop kj = (x.split)[kj] :: (x.split).drop (kj + 1) := List.drop_eq_getElem_cons hkj
        have hwj : IntKind.wrap .i64 ((kj : Int) + 1) = kj + 1 := wrap_i64 (by omega) (by omega)
        obtain ⟨w, hxj⟩ : ∃ x0, (x.split)[kj] = x0 := ⟨_, rfl⟩
        rw [hxj] at hrj hmj htj hdj
        simp only [hj]
        simp [hrj, hwj, hr, Tryz.ntmps174, Tryz.results174]
        have hlen : ((x.split.take kj).foldl refsStep (refsAt r k)).length ≤ 10000 := by
          have h5 := fold_len (x.split.take kj) (refsAt r k)
          have h6 := refsAt_len k hb.1 hb.2.2
          have h8 : (x.split.take kj).length ≤ 4 := Nat.le_trans (by simp; omega) h7
          omega
        refine run_br_split (fun h4 => ?_) (fun h4 => ?_) <;> simp only [h4] <;> simp [hr, hrj, Tryz.ntmps174, Tryz.results174] <;> (try simp only [Bool.not_eq_true', Bool.not_eq_false', decide_eq_true_eq, decide_eq_false_iff_not] at h4)
        · refine CW.callP (put_r ((x.split.take kj).foldl refsStep (refsAt r k)) ⟨2, w.cluster⟩ hlen (by have := hsp x hm w hmj; simp only; omega)) Tryz.call176 rfl rfl rfl (by first | exact .inl rfl | exact .inr ⟨_, _, rfl, by simp⟩ | exact .inr ⟨_, _, rfl, by simp [*]⟩) rfl (by simp [hr, hrj]) rfl rfl (CW.runOps 9999 400 rfl ?_)
          simp [hr, hrj, Tryz.ntmps174, Tryz.results174]
          refine hBj _ ⟨kj + 1, by omega⟩ [] ?_ (by simp; omega)
          constructor <;> simp [hwj, htj, List.foldl_append, refsStep, h4, hwj]
        · refine hBj _ ⟨kj + 1, by omega⟩ [] ?_ (by simp; omega)
          constructor <;> simp [hwj, htj, List.foldl_append, refsStep, h4, hwj]
      · have hklj : kj = (x.split).length := by simp at hj; omega
        subst hklj
        simp only [hj]
        simp [List.take_length, List.drop_length, hw, Tryz.ntmps174, Tryz.results174]
        refine hB _ ⟨k + 1, by omega⟩ [] ?_ (by simp; omega)
        constructor <;> simp [hw, ht, refsAt_succ ht]
    · have hkl : k = (r.rules).length := by simp at h; omega
      subst hkl
      simp only [h]
      simp [List.take_length, List.drop_length, Tryz.ntmps174, Tryz.results174]
      first | (exact fin0 (by simp [refsK_at h1]) rfl) | (refine ⟨by decide +kernel, ?_⟩; exact fin0 (by simp [refsK_at h1]) rfl)
  · have h0 : refs0 r = [] := by simp [refs0, h2]
    refine LoopW.inv mixed (Plain.retC _ _ _ _ _) rfl (ι := {k : Nat // k ≤ (r.rules).length}) (fun k => [(1, .ptr 64 0), (3, lst ((refsAt r k.1).map keyC)), (4, int k.1)]) (fun k => [(64, .cells ((resC r).map .d) 51)]) 65 (fun k => (r.rules).length - k.1) ⟨0, by omega⟩ [] (by constructor <;> simp [refsAt_zero, h0]) ?_
    rintro ⟨k, hk1⟩ B hB
    refine CW.run 9999 400 rfl ?_
    simp [refsAt_zero, h0, Tryz.ntmps174, Tryz.results174]
    refine run_br_split (fun h => ?_) (fun h => ?_)
    · have hk : k < (r.rules).length := by simpa using h
      have hr : (r.rules)[k]? = some (r.rules)[k] := List.getElem?_eq_getElem hk
      have hm : (r.rules)[k] ∈ (r.rules) := List.getElem_mem hk
      have ht : (r.rules).take (k + 1) = (r.rules).take k ++ [(r.rules)[k]] := by rw [List.take_add_one, hr]; rfl
      have hd : (r.rules).drop k = (r.rules)[k] :: (r.rules).drop (k + 1) := List.drop_eq_getElem_cons hk
      have hw : IntKind.wrap .i64 ((k : Int) + 1) = k + 1 := wrap_i64 (by omega) (by omega)
      obtain ⟨x, hx⟩ : ∃ x0, (r.rules)[k] = x0 := ⟨_, rfl⟩
      rw [hx] at hr hm ht hd
      simp only [h]
      simp [hr, hw, Tryz.ntmps174, Tryz.results174]
      have h7 := hb.2.2 x hm
      refine LoopW.inv mixed (Plain.retC _ _ _ _ _) rfl (ι := {kj : Nat // kj ≤ (x.split).length}) (fun kj => [(1, .ptr 64 0), (3, lst (((x.split.take kj.1).foldl refsStep (refsAt r k)).map keyC)), (4, int k), (5, int kj.1)]) (fun kj => [(64, .cells ((resC r).map .d) 51)]) 65 (fun kj => (x.split).length - kj.1) ⟨0, by omega⟩ [] (by constructor <;> simp [hr]) ?_
      rintro ⟨kj, hk1j⟩ Bj hBj
      refine CW.run 9999 400 rfl ?_
      simp [hr, Tryz.ntmps174, Tryz.results174]
      refine run_br_split (fun hj => ?_) (fun hj => ?_)
      · have hkj : kj < (x.split).length := by simpa using hj
        have hrj : (x.split)[kj]? = some (x.split)[kj] := List.getElem?_eq_getElem hkj
        have hmj : (x.split)[kj] ∈ (x.split) := List.getElem_mem hkj
        have htj : (x.split).take (kj + 1) = (x.split).take kj ++ [(x.split)[kj]] := by rw [List.take_add_one, hrj]; rfl
        have hdj : (x.split).drop kj = (x.split)[kj] :: (x.split).drop (kj + 1) := List.drop_eq_getElem_cons hkj
        have hwj : IntKind.wrap .i64 ((kj : Int) + 1) = kj + 1 := wrap_i64 (by omega) (by omega)
        obtain ⟨w, hxj⟩ : ∃ x0, (x.split)[kj] = x0 := ⟨_, rfl⟩
        rw [hxj] at hrj hmj htj hdj
        simp only [hj]
        simp [hrj, hwj, hr, Tryz.ntmps174, Tryz.results174]
        have hlen : ((x.split.take kj).foldl refsStep (refsAt r k)).length ≤ 10000 := by
          have h5 := fold_len (x.split.take kj) (refsAt r k)
          have h6 := refsAt_len k hb.1 hb.2.2
          have h8 : (x.split.take kj).length ≤ 4 := Nat.le_trans (by simp; omega) h7
          omega
        refine run_br_split (fun h4 => ?_) (fun h4 => ?_) <;> simp only [h4] <;> simp [hr, hrj, Tryz.ntmps174, Tryz.results174] <;> (try simp only [Bool.not_eq_true', Bool.not_eq_false', decide_eq_true_eq, decide_eq_false_iff_not] at h4)
        · refine CW.callP (put_r ((x.split.take kj).foldl refsStep (refsAt r k)) ⟨2, w.cluster⟩ hlen (by have := hsp x hm w hmj; simp only; omega)) Tryz.call176 rfl rfl rfl (by first | exact .inl rfl | exact .inr ⟨_, _, rfl, by simp⟩ | exact .inr ⟨_, _, rfl, by simp [*]⟩) rfl (by simp [hr, hrj]) rfl rfl (CW.runOps 9999 400 rfl ?_)
          simp [hr, hrj, Tryz.ntmps174, Tryz.results174]
          refine hBj _ ⟨kj + 1, by omega⟩ [] ?_ (by simp; omega)
          constructor <;> simp [hwj, htj, List.foldl_append, refsStep, h4, hwj]
        · refine hBj _ ⟨kj + 1, by omega⟩ [] ?_ (by simp; omega)
          constructor <;> simp [hwj, htj, List.foldl_append, refsStep, h4, hwj]
      · have hklj : kj = (x.split).length := by simp at hj; omega
        subst hklj
        simp only [hj]
        simp [List.take_length, List.drop_length, hw, Tryz.ntmps174, Tryz.results174]
        refine hB _ ⟨k + 1, by omega⟩ [] ?_ (by simp; omega)
        constructor <;> simp [hw, ht, refsAt_succ ht]
    · have hkl : k = (r.rules).length := by simp at h; omega
      subst hkl
      simp only [h]
      simp [List.take_length, List.drop_length, Tryz.ntmps174, Tryz.results174]
      first | (exact fin0 (by simp [refsK_at h1]) rfl) | (refine ⟨by decide +kernel, ?_⟩; exact fin0 (by simp [refsK_at h1]) rfl)
end Go.Proofs.YtnmocaniljacpaaGreatDoor
end
section
namespace Go.Proofs.YtnmocaniljacpaaGreatDoor
open Go.AI Go.G
set_option maxRecDepth 20000
theorem fewRes_r (r : Res) (hl : r.rules.length ≤ 9223372036854775807) : Ct Tryz.prog 51 [st (resC r)] [] [] (bool (fewRes r)) [] := by
  refine Ct.of_body Tryz.func51 rfl mixed (by rw [Tryz.ntmps51]; simp) (CW.run 9999 400 rfl ?_)
  simp [Tryz.ntmps51, Tryz.results51]
  refine LoopW.inv mixed (Plain.retC _ _ _ _ _) rfl (ι := {k : Nat // k ≤ (r.rules).length ∧ (r.rules.take k).all fewRule = true}) (fun k => [(1, .ptr 64 0), (3, int k.1)]) (fun k => [(64, .cells ((resC r).map .d) 51)]) 65 (fun k => (r.rules).length - k.1) ⟨0, by omega, by simp⟩ [] (by constructor <;> simp) ?_
  rintro ⟨k, hk1, hi⟩ B hB
  refine CW.run 9999 400 rfl ?_
  simp [Tryz.ntmps51, Tryz.results51]
  refine run_br_split (fun h => ?_) (fun h => ?_)
  · have hk : k < (r.rules).length := by simpa using h
    have hr : (r.rules)[k]? = some (r.rules)[k] := List.getElem?_eq_getElem hk
    have hm : (r.rules)[k] ∈ (r.rules) := List.getElem_mem hk
    have ht : (r.rules).take (k + 1) = (r.rules).take k ++ [(r.rules)[k]] := by rw [List.take_add_one, hr]; rfl
    have hd : (r.rules).drop k = (r.rules)[k] :: (r.rules).drop (k + 1) := List.drop_eq_getElem_cons hk
    have hw : IntKind.wrap .i64 ((k : Int) + 1) = k + 1 := wrap_i64 (by omega) (by omega)
    obtain ⟨x, hx⟩ : ∃ x0, (r.rules)[k] = x0 := ⟨_, rfl⟩
    rw [hx] at hr hm ht hd
    simp only [h]
    simp [hr, hw, Tryz.ntmps51, Tryz.results51]
    have ef : fewRule x = false → fewRes r = false := fun e => by
      have : r.rules.all fewRule = false := by rw [List.all_eq_false]; exact ⟨x, hm, by simp [e]⟩
      simp only [fewRes, this, Bool.false_and]
    have s1 := size_bs x.host
    have s2 := size_bs x.pre
    refine run_gd_split (fun h1 => ?_) (fun h1 => ?_) <;> simp only [h1] <;> simp [hr, Tryz.ntmps51, Tryz.results51] <;> (try simp only [Bool.not_eq_true', Bool.not_eq_false', decide_eq_true_eq, decide_eq_false_iff_not] at h1)
    · first | (exact fin0 (by simp [ef (by simp [fewRule]; omega)]) rfl) | (refine ⟨by decide +kernel, ?_⟩; exact fin0 (by simp [ef (by simp [fewRule]; omega)]) rfl)
    refine run_gd_split (fun h2 => ?_) (fun h2 => ?_) <;> simp only [h2] <;> simp [hr, Tryz.ntmps51, Tryz.results51] <;> (try simp only [Bool.not_eq_true', Bool.not_eq_false', decide_eq_true_eq, decide_eq_false_iff_not] at h2)
    · first | (exact fin0 (by simp [ef (by simp [fewRule]; omega)]) rfl) | (refine ⟨by decide +kernel, ?_⟩; exact fin0 (by simp [ef (by simp [fewRule]; omega)]) rfl)
    refine run_br_split (fun h3 => ?_) (fun h3 => ?_) <;> simp only [h3] <;> simp [hr, Tryz.ntmps51, Tryz.results51] <;> (try simp only [Bool.not_eq_true', Bool.not_eq_false', decide_eq_true_eq, decide_eq_false_iff_not] at h3)
    · first | (exact fin0 (by simp [ef (by simp [fewRule]; omega)]) rfl) | (refine ⟨by decide +kernel, ?_⟩; exact fin0 (by simp [ef (by simp [fewRule]; omega)]) rfl)
    · have e : fewRule x = true := by simp [fewRule]; omega
      refine hB _ ⟨k + 1, by omega, by simp [ht, hi, e]⟩ [] ?_ (by simp; omega)
      constructor <;> simp [hw, ht, e]
  · have hkl : k = (r.rules).length := by simp at h; omega
    subst hkl
    simp only [h]
    simp [List.take_length, List.drop_length, Tryz.ntmps51, Tryz.results51]
    rw [List.take_length] at hi
    have s3 := size_bs r.name
    have s4 := size_bs r.to
    refine run_gd_split (fun g1 => ?_) (fun g1 => ?_) <;> simp only [g1] <;> simp [Tryz.ntmps51, Tryz.results51] <;> (try simp only [Bool.not_eq_true', Bool.not_eq_false', decide_eq_true_eq, decide_eq_false_iff_not] at g1)
    · have a1 : r.rules.length ≤ 20 := by omega
      refine run_gd_split (fun g2 => ?_) (fun g2 => ?_) <;> simp only [g2] <;> simp [Tryz.ntmps51, Tryz.results51] <;> (try simp only [Bool.not_eq_true', Bool.not_eq_false', decide_eq_true_eq, decide_eq_false_iff_not] at g2)
      · have a2 : r.hosts.length ≤ 20 := by omega
        refine run_gd_split (fun g3 => ?_) (fun g3 => ?_) <;> simp only [g3] <;> simp [Tryz.ntmps51, Tryz.results51] <;> (try simp only [Bool.not_eq_true', Bool.not_eq_false', decide_eq_true_eq, decide_eq_false_iff_not] at g3)
        · have a3 : (bs r.name).length ≤ 100 := by omega
          by_cases g4 : (bs r.to).length ≤ 100
          · exact fin0 (by simp [fewRes, hi, a1, a2, a3, g4, s4]; try omega) rfl
          · exact fin0 (by simp [fewRes, hi, a1, a2, a3, g4, s4]; try omega) rfl
        · have a3 : ¬ (bs r.name).length ≤ 100 := by omega
          first | (exact fin0 (by simp [fewRes, a3]) rfl) | (refine ⟨by decide +kernel, ?_⟩; exact fin0 (by simp [fewRes, a3]) rfl)
      · have a2 : ¬ r.hosts.length ≤ 20 := by omega
        first | (exact fin0 (by simp [fewRes, a2]) rfl) | (refine ⟨by decide +kernel, ?_⟩; exact fin0 (by simp [fewRes, a2]) rfl)
    · have a1 : ¬ r.rules.length ≤ 20 := by omega
      first | (exact fin0 (by simp [fewRes, a1]) rfl) | (refine ⟨by decide +kernel, ?_⟩; exact fin0 (by simp [fewRes, a1]) rfl)
theorem rules_r (a b : List Rule) (hl : a.length ≤ 9223372036854775807 ∧ ∀ x ∈ a, x.split.length ≤ 9223372036854775807) : Ct Tryz.prog 117 [lst (a.map ruleC), lst (b.map ruleC)] [] [] (bool (decide (a = b))) [] := by
  refine Ct.of_body Tryz.func117 rfl mixed (by rw [Tryz.ntmps117]; simp) (CW.run 9999 400 rfl ?_)
  simp [Tryz.ntmps117, Tryz.results117]
  obtain ⟨hl1, hl2⟩ := hl
  refine run_br_split (fun h1 => ?_) (fun h1 => ?_) <;> simp only [h1] <;> simp [Tryz.ntmps117, Tryz.results117] <;> (try simp only [Bool.not_eq_true', Bool.not_eq_false', decide_eq_true_eq, decide_eq_false_iff_not] at h1)
  · have e : ¬ a = b := fun e => h1 (by rw [e])
    first | (exact fin0 (by simp [e]) rfl) | (refine ⟨by decide +kernel, ?_⟩; exact fin0 (by simp [e]) rfl)
  have hab : a.length = b.length := by omega
  refine LoopW.inv mixed (Plain.retC _ _ _ _ _) rfl (ι := {k : Nat // k ≤ (a).length ∧ a.take k = b.take k}) (fun k => [(0, lst (a.map ruleC)), (1, lst (b.map ruleC)), (5, int k.1)]) (fun k => []) 64 (fun k => (a).length - k.1) ⟨0, by omega, by simp⟩ [] (by constructor <;> simp) ?_
  rintro ⟨k, hk1, hi⟩ B hB
  refine CW.run 9999 400 rfl ?_
  simp [Tryz.ntmps117, Tryz.results117]
  refine run_br_split (fun h => ?_) (fun h => ?_)
  · have hk : k < (a).length := by simpa using h
    have hr : (a)[k]? = some (a)[k] := List.getElem?_eq_getElem hk
    have hm : (a)[k] ∈ (a) := List.getElem_mem hk
    have ht : (a).take (k + 1) = (a).take k ++ [(a)[k]] := by rw [List.take_add_one, hr]; rfl
    have hd : (a).drop k = (a)[k] :: (a).drop (k + 1) := List.drop_eq_getElem_cons hk
    have hw : IntKind.wrap .i64 ((k : Int) + 1) = k + 1 := wrap_i64 (by omega) (by omega)
    obtain ⟨x, hx⟩ : ∃ x0, (a)[k] = x0 := ⟨_, rfl⟩
    rw [hx] at hr hm ht hd
    simp only [h]
    simp [hr, hw, Tryz.ntmps117, Tryz.results117]
    have hrb : b[k]? = some b[k] := List.getElem?_eq_getElem (by omega)
    have htb : b.take (k + 1) = b.take k ++ [b[k]] := by rw [List.take_add_one, hrb]; rfl
    have hne : x ≠ b[k] → a ≠ b := by
      intro h2 e; subst e; rw [hr] at hrb; cases hrb; exact h2 rfl
    generalize b[k] = y at hrb htb hne
    simp [hrb, Tryz.ntmps117, Tryz.results117]
    refine run_gd_split (fun h2 => ?_) (fun h2 => ?_) <;> simp only [h2] <;> simp [hr, hrb, Tryz.ntmps117, Tryz.results117] <;> (try simp only [Bool.not_eq_true', Bool.not_eq_false', decide_eq_true_eq, decide_eq_false_iff_not] at h2)
    · refine ⟨by decide +kernel, ?_⟩
      first | (exact fin0 (by simp [hne (fun e => h2 (by rw [e]))]) rfl) | (refine ⟨by decide +kernel, ?_⟩; exact fin0 (by simp [hne (fun e => h2 (by rw [e]))]) rfl)
    refine run_gd_split (fun h3 => ?_) (fun h3 => ?_) <;> simp only [h3] <;> simp [hr, hrb, Tryz.ntmps117, Tryz.results117] <;> (try simp only [Bool.not_eq_true', Bool.not_eq_false', decide_eq_true_eq, decide_eq_false_iff_not] at h3)
    · refine ⟨by decide +kernel, ?_⟩
      first | (exact fin0 (by simp [hne (fun e => h3 (by rw [e]))]) rfl) | (refine ⟨by decide +kernel, ?_⟩; exact fin0 (by simp [hne (fun e => h3 (by rw [e]))]) rfl)
    refine ⟨by decide +kernel, ?_⟩
    refine run_br_split (fun h4 => ?_) (fun h4 => ?_) <;> simp only [h4] <;> simp [hr, hrb, Tryz.ntmps117, Tryz.results117] <;> (try simp only [Bool.not_eq_true', Bool.not_eq_false', decide_eq_true_eq, decide_eq_false_iff_not] at h4)
    · first | (exact fin0 (by simp [hne (fun e => h4 (by rw [e]))]) rfl) | (refine ⟨by decide +kernel, ?_⟩; exact fin0 (by simp [hne (fun e => h4 (by rw [e]))]) rfl)
    have h4' : x.split.length = y.split.length := by omega
    have h5 := hl2 x hm
    refine LoopW.inv mixed (Plain.retC _ _ _ _ _) rfl (ι := {kj : Nat // kj ≤ (x.split).length ∧ x.split.take kj = y.split.take kj}) (fun kj => [(0, lst (a.map ruleC)), (1, lst (b.map ruleC)), (5, int k), (6, int kj.1)]) (fun kj => []) 64 (fun kj => (x.split).length - kj.1) ⟨0, by omega, by simp⟩ [] (by constructor <;> simp [hr]) ?_
    rintro ⟨kj, hk1j, hij⟩ Bj hBj
    refine CW.run 9999 400 rfl ?_
    simp [hr, Tryz.ntmps117, Tryz.results117]
    refine run_br_split (fun hj => ?_) (fun hj => ?_)
    · have hkj : kj < (x.split).length := by simpa using hj
      have hrj : (x.split)[kj]? = some (x.split)[kj] := List.getElem?_eq_getElem hkj
      have hmj : (x.split)[kj] ∈ (x.split) := List.getElem_mem hkj
      have htj : (x.split).take (kj + 1) = (x.split).take kj ++ [(x.split)[kj]] := by rw [List.take_add_one, hrj]; rfl
      have hdj : (x.split).drop kj = (x.split)[kj] :: (x.split).drop (kj + 1) := List.drop_eq_getElem_cons hkj
      have hwj : IntKind.wrap .i64 ((kj : Int) + 1) = kj + 1 := wrap_i64 (by omega) (by omega)
      obtain ⟨w, hxj⟩ : ∃ x0, (x.split)[kj] = x0 := ⟨_, rfl⟩
      rw [hxj] at hrj hmj htj hdj
      simp only [hj]
      simp [hrj, hwj, hr, hrb, Tryz.ntmps117, Tryz.results117]
      have hrc : y.split[kj]? = some y.split[kj] := List.getElem?_eq_getElem (by omega)
      have htc : y.split.take (kj + 1) = y.split.take kj ++ [y.split[kj]] := by rw [List.take_add_one, hrc]; rfl
      have hnc : w ≠ y.split[kj] → x ≠ y := by
        intro h2 e; subst e; rw [hrj] at hrc; cases hrc; exact h2 rfl
      generalize y.split[kj] = v at hrc htc hnc
      have hwv : (decide (w.cluster = v.cluster) && decide (w.w = v.w)) = decide (w = v) := by
        obtain ⟨p, q⟩ := w; obtain ⟨u, t⟩ := v
        simp [Weight.mk.injEq]
      simp [hrc, hr, hrb, hrj, Tryz.ntmps117, Tryz.results117]
      refine ⟨by decide +kernel, ?_⟩
      refine run_br_split (fun h6 => ?_) (fun h6 => ?_) <;> simp only [h6] <;> simp [hr, hrb, hrj, hrc, Tryz.ntmps117, Tryz.results117] <;> (try simp only [Bool.not_eq_true', Bool.not_eq_false', decide_eq_true_eq, decide_eq_false_iff_not] at h6)
      · have h7 : ¬ w = v := by
          rw [← Bool.not_and, hwv] at h6; simpa using h6
        first | (exact fin0 (by simp [hne (hnc h7)]) rfl) | (refine ⟨by decide +kernel, ?_⟩; exact fin0 (by simp [hne (hnc h7)]) rfl)
      · have h7 : w = v := by
          rw [← Bool.not_and, hwv] at h6; simpa using h6
        refine hBj _ ⟨kj + 1, by omega, by rw [htj, htc, hij, h7]⟩ [] ?_ (by simp; omega)
        constructor <;> simp [hwj]
    · have hklj : kj = (x.split).length := by simp at hj; omega
      subst hklj
      simp only [hj]
      simp [List.take_length, List.drop_length, hw, Tryz.ntmps117, Tryz.results117]
      have e : x = y := by
        rw [List.take_length, h4', List.take_length] at hij
        obtain ⟨p, q, t⟩ := x; obtain ⟨p', q', t'⟩ := y
        simp only at h2 h3 hij
        rw [h2, h3, hij]
      refine hB _ ⟨k + 1, by omega, by rw [ht, htb, hi, e]⟩ [] ?_ (by simp; omega)
      constructor <;> simp [hw]
  · have hkl : k = (a).length := by simp at h; omega
    subst hkl
    simp only [h]
    simp [List.take_length, List.drop_length, Tryz.ntmps117, Tryz.results117]
    have e : a = b := by
      rw [List.take_length, hab, List.take_length] at hi; exact hi
    first | (exact fin0 (by simp [e]) rfl) | (refine ⟨by decide +kernel, ?_⟩; exact fin0 (by simp [e]) rfl)
end Go.Proofs.YtnmocaniljacpaaGreatDoor
end
section
namespace Go.Proofs.YtnmocaniljacpaaGreatDoor
open Go.AI Go.G
set_option maxRecDepth 20000
theorem alike_r (a b : Res) (hl : OkRes a) : Ct Tryz.prog 85 [st (resC a), st (resC b)] [] [] (bool (alikeB a b)) [] := by
  refine Ct.of_body Tryz.func85 rfl mixed (by rw [Tryz.ntmps85]; simp) (CW.run 9999 400 rfl ?_)
  simp [Tryz.ntmps85, Tryz.results85]
  refine run_gd_split (fun h1 => ?_) (fun h1 => ?_) <;> simp only [h1] <;> simp [Tryz.ntmps85, Tryz.results85] <;> (try simp only [Bool.not_eq_true', Bool.not_eq_false', decide_eq_true_eq, decide_eq_false_iff_not] at h1)
  · first | (exact fin0 (by simp [alikeB, h1]) rfl) | (refine ⟨by decide +kernel, ?_⟩; exact fin0 (by simp [alikeB, h1]) rfl)
  refine run_gd_split (fun h2 => ?_) (fun h2 => ?_) <;> simp only [h2] <;> simp [Tryz.ntmps85, Tryz.results85] <;> (try simp only [Bool.not_eq_true', Bool.not_eq_false', decide_eq_true_eq, decide_eq_false_iff_not] at h2)
  · first | (exact fin0 (by simp [alikeB, h2]) rfl) | (refine ⟨by decide +kernel, ?_⟩; exact fin0 (by simp [alikeB, h2]) rfl)
  refine run_gd_split (fun h3 => ?_) (fun h3 => ?_) <;> simp only [h3] <;> simp [Tryz.ntmps85, Tryz.results85] <;> (try simp only [Bool.not_eq_true', Bool.not_eq_false', decide_eq_true_eq, decide_eq_false_iff_not] at h3)
  · first | (exact fin0 (by simp [alikeB, h3]) rfl) | (refine ⟨by decide +kernel, ?_⟩; exact fin0 (by simp [alikeB, h3]) rfl)
  refine run_gd_split (fun h4 => ?_) (fun h4 => ?_) <;> simp only [h4] <;> simp [Tryz.ntmps85, Tryz.results85] <;> (try simp only [Bool.not_eq_true', Bool.not_eq_false', decide_eq_true_eq, decide_eq_false_iff_not] at h4)
  · first | (exact fin0 (by simp [alikeB, h4]) rfl) | (refine ⟨by decide +kernel, ?_⟩; exact fin0 (by simp [alikeB, h4]) rfl)
  refine run_br_split (fun h5 => ?_) (fun h5 => ?_) <;> simp only [h5] <;> simp [Tryz.ntmps85, Tryz.results85] <;> (try simp only [Bool.not_eq_true', Bool.not_eq_false', decide_eq_true_eq, decide_eq_false_iff_not] at h5)
  · have e : ¬ a.hosts = b.hosts := fun e => h5 (by rw [e])
    first | (exact fin0 (by simp [alikeB, e]) rfl) | (refine ⟨by decide +kernel, ?_⟩; exact fin0 (by simp [alikeB, e]) rfl)
  have hab : a.hosts.length = b.hosts.length := by omega
  have hh := hl.hosts
  refine LoopW.inv mixed (Plain.retC _ _ _ _ _) rfl (ι := {k : Nat // k ≤ (a.hosts).length ∧ a.hosts.take k = b.hosts.take k}) (fun k => [(2, .ptr 64 0), (3, .ptr 65 0), (5, int k.1)]) (fun k => [(64, .cells ((resC a).map .d) 51), (65, .cells ((resC b).map .d) 51)]) 66 (fun k => (a.hosts).length - k.1) ⟨0, by omega, by simp⟩ [] (by constructor <;> simp) ?_
  rintro ⟨k, hk1, hi⟩ B hB
  refine CW.run 9999 400 rfl ?_
  simp [Tryz.ntmps85, Tryz.results85]
  refine run_br_split (fun h => ?_) (fun h => ?_)
  · have hk : k < (a.hosts).length := by simpa using h
    have hr : (a.hosts)[k]? = some (a.hosts)[k] := List.getElem?_eq_getElem hk
    have hm : (a.hosts)[k] ∈ (a.hosts) := List.getElem_mem hk
    have ht : (a.hosts).take (k + 1) = (a.hosts).take k ++ [(a.hosts)[k]] := by rw [List.take_add_one, hr]; rfl
    have hd : (a.hosts).drop k = (a.hosts)[k] :: (a.hosts).drop (k + 1) := List.drop_eq_getElem_cons hk
    have hw : IntKind.wrap .i64 ((k : Int) + 1) = k + 1 := wrap_i64 (by omega) (by omega)
    obtain ⟨x, hx⟩ : ∃ x0, (a.hosts)[k] = x0 := ⟨_, rfl⟩
    rw [hx] at hr hm ht hd
    simp only [h]
    simp [hr, hw, Tryz.ntmps85, Tryz.results85]
    have hrb : b.hosts[k]? = some b.hosts[k] := List.getElem?_eq_getElem (by omega)
    have htb : b.hosts.take (k + 1) = b.hosts.take k ++ [b.hosts[k]] := by rw [List.take_add_one, hrb]; rfl
    have hne : x ≠ b.hosts[k] → a.hosts ≠ b.hosts := by
      intro h2 e; exact h2 (Option.some.inj (by rw [← hr, ← hrb, e]))
    generalize b.hosts[k] = y at hrb htb hne
    simp [hrb, Tryz.ntmps85, Tryz.results85]
    refine ⟨by decide +kernel, ?_⟩
    refine run_br_split (fun h6 => ?_) (fun h6 => ?_) <;> simp only [h6] <;> simp [hr, hrb, Tryz.ntmps85, Tryz.results85] <;> (try simp only [Bool.not_eq_true', Bool.not_eq_false', decide_eq_true_eq, decide_eq_false_iff_not] at h6)
    · have e : ¬ a.hosts = b.hosts := hne h6
      first | (exact fin0 (by simp [alikeB, e]) rfl) | (refine ⟨by decide +kernel, ?_⟩; exact fin0 (by simp [alikeB, e]) rfl)
    · have h6' : x = y := by omega
      refine hB _ ⟨k + 1, by omega, by rw [ht, htb, hi, h6']⟩ [] ?_ (by simp; omega)
      constructor <;> simp [hw]
  · have hkl : k = (a.hosts).length := by simp at h; omega
    subst hkl
    simp only [h]
    simp [List.take_length, List.drop_length, Tryz.ntmps85, Tryz.results85]
    have e : a.hosts = b.hosts := by
      rw [List.take_length, hab, List.take_length] at hi; exact hi
    refine CW.callP (rules_r a.rules b.rules ⟨hl.rules, hl.split⟩) Tryz.call117 rfl rfl rfl (by first | exact .inl rfl | exact .inr ⟨_, _, rfl, by simp⟩ | exact .inr ⟨_, _, rfl, by simp [*]⟩) rfl (by simp) rfl rfl (CW.runOps 9999 400 rfl ?_)
    simp [Tryz.ntmps85, Tryz.results85]
    first | (exact fin0 (by simp [alikeB, h1, h2, h3, h4, e]) rfl) | (refine ⟨by decide +kernel, ?_⟩; exact fin0 (by simp [alikeB, h1, h2, h3, h4, e]) rfl)
theorem same_r (a b : Res) (hl : OkRes a) : Ct Tryz.prog 46 [st (resC a), st (resC b)] [] [] (bool (decide (a = b))) [] := by
  refine Ct.of_body Tryz.func46 rfl mixed (by rw [Tryz.ntmps46]; simp) (CW.run 9999 400 rfl ?_)
  simp [Tryz.ntmps46, Tryz.results46]
  refine CW.callP (alike_r a b hl) Tryz.call85 rfl rfl rfl (by first | exact .inl rfl | exact .inr ⟨_, _, rfl, by simp⟩ | exact .inr ⟨_, _, rfl, by simp [*]⟩) rfl (by simp) rfl rfl (CW.runOps 9999 400 rfl ?_)
  simp [Tryz.ntmps46, Tryz.results46]
  rw [← alike_same]
  refine run_gd_split (fun h1 => ?_) (fun h1 => ?_) <;> simp only [h1] <;> simp [Tryz.ntmps46, Tryz.results46] <;> (try simp only [Bool.not_eq_true', Bool.not_eq_false', decide_eq_true_eq, decide_eq_false_iff_not] at h1)
  · first | (exact fin0 (by simp [h1]) rfl) | (refine ⟨by decide +kernel, ?_⟩; exact fin0 (by simp [h1]) rfl)
  · first | (exact fin0 (by simp [h1]) rfl) | (refine ⟨by decide +kernel, ?_⟩; exact fin0 (by simp [h1]) rfl)
theorem few_r (l : List Res) (hl : OkRs l) : Ct Tryz.prog 20 [lst (l.map resC)] [] [] (bool (fewL l)) [] := by
  refine Ct.of_body Tryz.func20 rfl mixed (by rw [Tryz.ntmps20]; simp) (CW.run 9999 400 rfl ?_)
  simp [Tryz.ntmps20, Tryz.results20]
  have hh := hl.len
  refine LoopW.inv mixed (Plain.retC _ _ _ _ _) rfl (ι := {k : Nat // k ≤ (l).length ∧ (l.take k).all fewRes = true}) (fun k => [(0, lst (l.map resC)), (3, int k.1)]) (fun k => []) 64 (fun k => (l).length - k.1) ⟨0, by omega, by simp⟩ [] (by constructor <;> simp) ?_
  rintro ⟨k, hk1, hi⟩ B hB
  refine CW.run 9999 400 rfl ?_
  simp [Tryz.ntmps20, Tryz.results20]
  refine run_br_split (fun h => ?_) (fun h => ?_)
  · have hk : k < (l).length := by simpa using h
    have hr : (l)[k]? = some (l)[k] := List.getElem?_eq_getElem hk
    have hm : (l)[k] ∈ (l) := List.getElem_mem hk
    have ht : (l).take (k + 1) = (l).take k ++ [(l)[k]] := by rw [List.take_add_one, hr]; rfl
    have hd : (l).drop k = (l)[k] :: (l).drop (k + 1) := List.drop_eq_getElem_cons hk
    have hw : IntKind.wrap .i64 ((k : Int) + 1) = k + 1 := wrap_i64 (by omega) (by omega)
    obtain ⟨x, hx⟩ : ∃ x0, (l)[k] = x0 := ⟨_, rfl⟩
    rw [hx] at hr hm ht hd
    simp only [h]
    simp [hr, hw, Tryz.ntmps20, Tryz.results20]
    refine CW.callP (fewRes_r x (hl.all x hm).rules) Tryz.call51 rfl rfl rfl (by first | exact .inl rfl | exact .inr ⟨_, _, rfl, by simp⟩ | exact .inr ⟨_, _, rfl, by simp [*]⟩) rfl (by simp) rfl rfl (CW.runOps 9999 400 rfl ?_)
    simp [Tryz.ntmps20, Tryz.results20]
    refine run_br_split (fun h1 => ?_) (fun h1 => ?_) <;> simp only [h1] <;> simp [Tryz.ntmps20, Tryz.results20] <;> (try simp only [Bool.not_eq_true', Bool.not_eq_false', decide_eq_true_eq, decide_eq_false_iff_not] at h1)
    · have e : l.all fewRes = false := by rw [List.all_eq_false]; exact ⟨x, hm, by simp [h1]⟩
      first | (exact fin0 (by simp [fewL, e]) rfl) | (refine ⟨by decide +kernel, ?_⟩; exact fin0 (by simp [fewL, e]) rfl)
    · refine hB _ ⟨k + 1, by omega, by simp [ht, hi, h1]⟩ [] ?_ (by simp; omega)
      constructor <;> simp [hw, ht, h1]
  · have hkl : k = (l).length := by simp at h; omega
    subst hkl
    simp only [h]
    simp [List.take_length, List.drop_length, Tryz.ntmps20, Tryz.results20]
    rw [List.take_length] at hi
    exact fin0 (by simp [fewL, hi]; try omega) rfl
theorem get_r (l : List Res) (k_ : Key) (hl : l.length ≤ 9223372036854775807) : Ct Tryz.prog 109 [lst (l.map resC), st (keyC k_)] [] [] (getA l k_) [] := by
  refine Ct.of_body Tryz.func109 rfl mixed (by rw [Tryz.ntmps109]; simp) (CW.run 9999 400 rfl ?_)
  simp [Tryz.ntmps109, Tryz.results109]
  refine LoopW.inv mixed (Plain.retC _ _ _ _ _) rfl (ι := {k : Nat // k ≤ (l).length ∧ (l.take k).all (fun r => !decide (r.key = k_)) = true}) (fun k => [(0, lst (l.map resC)), (3, .ptr 64 0), (4, .ptr 65 0), (6, int k.1)]) (fun k => [(64, .cells ((keyC k_).map .d) 45), (65, .cells [.d (iD 0), .d (sD ⟨#[]⟩), .d (iD 0), .d (iD 0), .d (sD ⟨#[]⟩), .d (.v (.slice none 0 0)), .d (.v (.slice none 0 0))] 51)]) 66 (fun k => (l).length - k.1) ⟨0, by omega, by simp⟩ [] (by constructor <;> simp) ?_
  rintro ⟨k, hk1, hi⟩ B hB
  refine CW.run 9999 400 rfl ?_
  simp [Tryz.ntmps109, Tryz.results109]
  refine run_br_split (fun h => ?_) (fun h => ?_)
  · have hk : k < (l).length := by simpa using h
    have hr : (l)[k]? = some (l)[k] := List.getElem?_eq_getElem hk
    have hm : (l)[k] ∈ (l) := List.getElem_mem hk
    have ht : (l).take (k + 1) = (l).take k ++ [(l)[k]] := by rw [List.take_add_one, hr]; rfl
    have hd : (l).drop k = (l)[k] :: (l).drop (k + 1) := List.drop_eq_getElem_cons hk
    have hw : IntKind.wrap .i64 ((k : Int) + 1) = k + 1 := wrap_i64 (by omega) (by omega)
    obtain ⟨x, hx⟩ : ∃ x0, (l)[k] = x0 := ⟨_, rfl⟩
    rw [hx] at hr hm ht hd
    simp only [h]
    simp [hr, hw, Tryz.ntmps109, Tryz.results109]
    refine CW.callP (key_r x) Tryz.call110 rfl rfl rfl (by first | exact .inl rfl | exact .inr ⟨_, _, rfl, by simp⟩ | exact .inr ⟨_, _, rfl, by simp [*]⟩) rfl (by simp) rfl rfl (CW.runOps 9999 400 rfl ?_)
    simp [Tryz.ntmps109, Tryz.results109]
    rw [key_eq]
    refine ⟨by decide +kernel, ?_⟩
    refine run_br_split (fun h1 => ?_) (fun h1 => ?_) <;> simp only [h1] <;> simp [hr, Tryz.ntmps109, Tryz.results109] <;> (try simp only [Bool.not_eq_true', Bool.not_eq_false', decide_eq_true_eq, decide_eq_false_iff_not] at h1)
    · have e : getR l k_ = some x := find_at hi hr (by simpa using h1)
      first | (exact fin0 (by simp [e]) rfl) | (refine ⟨by decide +kernel, ?_⟩; exact fin0 (by simp [e]) rfl)
    · refine hB _ ⟨k + 1, by omega, by simp [ht, hi, h1]⟩ [] ?_ (by simp; omega)
      constructor <;> simp [hw, ht, h1]
  · have hkl : k = (l).length := by simp at h; omega
    subst hkl
    simp only [h]
    simp [List.take_length, List.drop_length, Tryz.ntmps109, Tryz.results109]
    rw [List.take_length] at hi
    have e : getR l k_ = none := find_none hi
    first | (exact fin0 (by simp [e, zRes]) rfl) | (refine ⟨by decide +kernel, ?_⟩; exact fin0 (by simp [e, zRes]) rfl)
theorem part_r5 (l : List Res) (k_ : Key) (c : Int) (hl : l.length ≤ 1000000) (hn : nB k_.name) : Ct Tryz.prog 171 [lst (l.map resC), st (keyC k_), int c] [] [] (.own 64) [(64, .grow 7 ((partR l k_ c).map resC) 51)] := by
  refine Ct.of_body Tryz.func171 rfl mixed (by rw [Tryz.ntmps171]; simp) (CW.run 9999 400 rfl ?_)
  simp [Tryz.ntmps171, Tryz.results171]
  refine LoopW.nilOwn 7 7 51 rfl ?_
  refine LoopW.inv mixed (Plain.retC _ _ _ _ _) rfl (ι := {k : Nat // k ≤ (l).length}) (fun k => [(0, lst (l.map resC)), (2, int c), (4, .ptr 64 0), (7, .own 65), (8, int k.1)]) (fun k => [(64, .cells ((keyC k_).map .d) 45), (65, .grow 7 ((partR (l.take k.1) k_ c).map resC) 51)]) 66 (fun k => (l).length - k.1) ⟨0, by omega⟩ [] (by constructor <;> simp) ?_
  rintro ⟨k, hk1⟩ B hB
  refine CW.run 9999 400 rfl ?_
  simp [Tryz.ntmps171, Tryz.results171]
  refine run_br_split (fun h => ?_) (fun h => ?_)
  · have hk : k < (l).length := by simpa using h
    have hr : (l)[k]? = some (l)[k] := List.getElem?_eq_getElem hk
    have hm : (l)[k] ∈ (l) := List.getElem_mem hk
    have ht : (l).take (k + 1) = (l).take k ++ [(l)[k]] := by rw [List.take_add_one, hr]; rfl
    have hd : (l).drop k = (l)[k] :: (l).drop (k + 1) := List.drop_eq_getElem_cons hk
    have hw : IntKind.wrap .i64 ((k : Int) + 1) = k + 1 := wrap_i64 (by omega) (by omega)
    obtain ⟨x, hx⟩ : ∃ x0, (l)[k] = x0 := ⟨_, rfl⟩
    rw [hx] at hr hm ht hd
    simp only [h]
    simp [hr, hw, Tryz.ntmps171, Tryz.results171]
    have hlen : (partR (l.take k) k_ c).length ≤ 1000000 := Nat.le_trans (List.length_filter_le _ _) (by simp; omega)
    refine CW.callP (key_r x) Tryz.call110 rfl rfl rfl (by first | exact .inl rfl | exact .inr ⟨_, _, rfl, by simp⟩ | exact .inr ⟨_, _, rfl, by simp [*]⟩) rfl (by simp) rfl rfl (CW.runOps 9999 400 rfl ?_)
    simp [Tryz.ntmps171, Tryz.results171]
    refine CW.callP (cmpK_r x.key k_ (.inr hn)) Tryz.call173 rfl rfl rfl (by first | exact .inl rfl | exact .inr ⟨_, _, rfl, by simp⟩ | exact .inr ⟨_, _, rfl, by simp [*]⟩) rfl (by simp) rfl rfl (CW.runOps 9999 400 rfl ?_)
    simp [Tryz.ntmps171, Tryz.results171]
    refine ⟨by decide +kernel, ?_⟩
    refine run_br_split (fun h1 => ?_) (fun h1 => ?_) <;> simp only [h1] <;> simp [hr, Tryz.ntmps171, Tryz.results171] <;> (try simp only [Bool.not_eq_true', Bool.not_eq_false', decide_eq_true_eq, decide_eq_false_iff_not] at h1)
    · refine ⟨by omega, ?_⟩
      refine hB _ ⟨k + 1, by omega⟩ [] ?_ (by simp; omega)
      constructor <;> simp [hw, ht, List.filter_append, h1]
    · refine hB _ ⟨k + 1, by omega⟩ [] ?_ (by simp; omega)
      constructor <;> simp [hw, ht, List.filter_append, h1]
  · have hkl : k = (l).length := by simp at h; omega
    subst hkl
    simp only [h]
    simp [List.take_length, List.drop_length, Tryz.ntmps171, Tryz.results171]
    exact fin1 65 (by simp) rfl
theorem with_r (l : List Res) (r : Res) (hl : l.length ≤ 1000000) (hn : nB r.name) : Ct Tryz.prog 150 [lst (l.map resC), st (resC r)] [] [] (lst ((withR l r).map resC)) [] := by
  refine Ct.of_body Tryz.func150 rfl mixed (by rw [Tryz.ntmps150]; simp) (CW.run 9999 400 rfl ?_)
  simp [Tryz.ntmps150, Tryz.results150]
  have hlen : ∀ c, (partR l r.key c).length ≤ 1000000 := fun c => Nat.le_trans (List.length_filter_le _ _) hl
  have h1 := hlen 1
  have h2 := hlen (-1)
  refine CW.callP (key_r r) Tryz.call110 rfl rfl rfl (by first | exact .inl rfl | exact .inr ⟨_, _, rfl, by simp⟩ | exact .inr ⟨_, _, rfl, by simp [*]⟩) rfl (by simp) rfl rfl (CW.runOps 9999 400 rfl ?_)
  simp [Tryz.ntmps150, Tryz.results150]
  refine CW.callC [] (part_r5 l r.key (-1) hl hn) Tryz.call171 rfl rfl rfl (by first | exact .inl rfl | exact .inr ⟨_, _, rfl, by simp⟩ | exact .inr ⟨_, _, rfl, by simp [*]⟩) rfl (by simp) (by constructor <;> simp [nmOk]) (by simp) (CW.runOps 9999 400 rfl ?_)
  simp [Tryz.ntmps150, Tryz.results150]
  refine ⟨by omega, ?_⟩
  refine CW.callC [] (part_r5 l r.key 1 hl hn) Tryz.call171 rfl rfl rfl (by first | exact .inl rfl | exact .inr ⟨_, _, rfl, by simp⟩ | exact .inr ⟨_, _, rfl, by simp [*]⟩) rfl (by simp) (by constructor <;> simp [nmOk]) (by simp) (CW.runOps 9999 400 rfl ?_)
  simp [Tryz.ntmps150, Tryz.results150]
  refine ⟨by omega, ?_⟩
  first | (exact fin0 (by simp) rfl) | (refine ⟨by decide +kernel, ?_⟩; exact fin0 (by simp) rfl)
end Go.Proofs.YtnmocaniljacpaaGreatDoor
end
section
namespace Go.Proofs.YtnmocaniljacpaaGreatDoor
open Go.AI Go.G
set_option maxRecDepth 20000
theorem without_r (l : List Res) (k_ : Key) (hl : l.length ≤ 1000000) : Ct Tryz.prog 149 [lst (l.map resC), st (keyC k_)] [] [] (lst ((withoutR l k_).map resC)) [] := by
  refine Ct.of_body Tryz.func149 rfl mixed (by rw [Tryz.ntmps149]; simp) (CW.run 9999 400 rfl ?_)
  simp [Tryz.ntmps149, Tryz.results149]
  refine LoopW.nilOwn 5 7 51 rfl ?_
  refine LoopW.inv mixed (Plain.retC _ _ _ _ _) rfl (ι := {k : Nat // k ≤ (l).length}) (fun k => [(0, lst (l.map resC)), (3, .ptr 64 0), (5, .own 65), (6, int k.1)]) (fun k => [(64, .cells ((keyC k_).map .d) 45), (65, .grow 7 ((withoutR (l.take k.1) k_).map resC) 51)]) 66 (fun k => (l).length - k.1) ⟨0, by omega⟩ [] (by constructor <;> simp) ?_
  rintro ⟨k, hk1⟩ B hB
  refine CW.run 9999 400 rfl ?_
  simp [Tryz.ntmps149, Tryz.results149]
  refine run_br_split (fun h => ?_) (fun h => ?_)
  · have hk : k < (l).length := by simpa using h
    have hr : (l)[k]? = some (l)[k] := List.getElem?_eq_getElem hk
    have hm : (l)[k] ∈ (l) := List.getElem_mem hk
    have ht : (l).take (k + 1) = (l).take k ++ [(l)[k]] := by rw [List.take_add_one, hr]; rfl
    have hd : (l).drop k = (l)[k] :: (l).drop (k + 1) := List.drop_eq_getElem_cons hk
    have hw : IntKind.wrap .i64 ((k : Int) + 1) = k + 1 := wrap_i64 (by omega) (by omega)
    obtain ⟨x, hx⟩ : ∃ x0, (l)[k] = x0 := ⟨_, rfl⟩
    rw [hx] at hr hm ht hd
    simp only [h]
    simp [hr, hw, Tryz.ntmps149, Tryz.results149]
    have hlen : (withoutR (l.take k) k_).length ≤ 1000000 := Nat.le_trans (List.length_filter_le _ _) (by simp; omega)
    refine CW.callP (key_r x) Tryz.call110 rfl rfl rfl (by first | exact .inl rfl | exact .inr ⟨_, _, rfl, by simp⟩ | exact .inr ⟨_, _, rfl, by simp [*]⟩) rfl (by simp) rfl rfl (CW.runOps 9999 400 rfl ?_)
    simp [Tryz.ntmps149, Tryz.results149]
    rw [key_ne]
    refine ⟨by decide +kernel, ?_⟩
    refine run_br_split (fun h1 => ?_) (fun h1 => ?_) <;> simp only [h1] <;> simp [hr, Tryz.ntmps149, Tryz.results149] <;> (try simp only [Bool.not_eq_true', Bool.not_eq_false', decide_eq_true_eq, decide_eq_false_iff_not] at h1)
    · refine ⟨by omega, ?_⟩
      refine hB _ ⟨k + 1, by omega⟩ [] ?_ (by simp; omega)
      constructor <;> simp [hw, ht, List.filter_append, h1]
    · refine hB _ ⟨k + 1, by omega⟩ [] ?_ (by simp; omega)
      constructor <;> simp [hw, ht, List.filter_append, h1]
  · have hkl : k = (l).length := by simp at h; omega
    subst hkl
    simp only [h]
    simp [List.take_length, List.drop_length, Tryz.ntmps149, Tryz.results149]
    first | (exact fin0 (by simp) rfl) | (refine ⟨by decide +kernel, ?_⟩; exact fin0 (by simp) rfl)
theorem patch_r (l adds : List Res) (gone : List Key) (hl : l.length + adds.length ≤ 1000000) (hg : gone.length ≤ 9223372036854775807) (hn : ∀ r ∈ adds, nB r.name) : Ct Tryz.prog 112 [lst (l.map resC), lst (adds.map resC), lst (gone.map keyC)] [] [] (lst ((patchR l adds gone).map resC)) [] := by
  refine Ct.of_body Tryz.func112 rfl mixed (by rw [Tryz.ntmps112]; simp) (CW.run 9999 400 rfl ?_)
  simp [Tryz.ntmps112, Tryz.results112]
  refine LoopW.inv mixed (Plain.retC _ _ _ _ _) rfl (ι := {k : Nat // k ≤ (gone).length}) (fun k => [(0, lst (((gone.take k.1).foldl withoutR l).map resC)), (1, lst (adds.map resC)), (2, lst (gone.map keyC)), (7, int k.1)]) (fun k => []) 64 (fun k => (gone).length - k.1) ⟨0, by omega⟩ [] (by constructor <;> simp) ?_
  rintro ⟨k, hk1⟩ B hB
  refine CW.run 9999 400 rfl ?_
  simp [Tryz.ntmps112, Tryz.results112]
  refine run_br_split (fun h => ?_) (fun h => ?_)
  · have hk : k < (gone).length := by simpa using h
    have hr : (gone)[k]? = some (gone)[k] := List.getElem?_eq_getElem hk
    have hm : (gone)[k] ∈ (gone) := List.getElem_mem hk
    have ht : (gone).take (k + 1) = (gone).take k ++ [(gone)[k]] := by rw [List.take_add_one, hr]; rfl
    have hd : (gone).drop k = (gone)[k] :: (gone).drop (k + 1) := List.drop_eq_getElem_cons hk
    have hw : IntKind.wrap .i64 ((k : Int) + 1) = k + 1 := wrap_i64 (by omega) (by omega)
    obtain ⟨x, hx⟩ : ∃ x0, (gone)[k] = x0 := ⟨_, rfl⟩
    rw [hx] at hr hm ht hd
    simp only [h]
    simp [hr, hw, Tryz.ntmps112, Tryz.results112]
    have h1 := fold_without_len (gone.take k) l
    refine CW.callP (without_r ((gone.take k).foldl withoutR l) x (by omega)) Tryz.call149 rfl rfl rfl (by first | exact .inl rfl | exact .inr ⟨_, _, rfl, by simp⟩ | exact .inr ⟨_, _, rfl, by simp [*]⟩) rfl (by simp) rfl rfl (CW.runOps 9999 400 rfl ?_)
    simp [Tryz.ntmps112, Tryz.results112]
    refine hB _ ⟨k + 1, by omega⟩ [] ?_ (by simp; omega)
    constructor <;> simp [hw, ht, List.foldl_append]
  · have hkl : k = (gone).length := by simp at h; omega
    subst hkl
    simp only [h]
    simp [List.take_length, List.drop_length, Tryz.ntmps112, Tryz.results112]
    have h1 := fold_without_len gone l
    refine LoopW.inv mixed (Plain.retC _ _ _ _ _) rfl (ι := {k : Nat // k ≤ (adds).length}) (fun k => [(0, lst (((adds.take k.1).foldl withR (gone.foldl withoutR l)).map resC)), (1, lst (adds.map resC)), (8, int k.1)]) (fun k => []) 64 (fun k => (adds).length - k.1) ⟨0, by omega⟩ [] (by constructor <;> simp) ?_
    rintro ⟨k, hk1⟩ B hB
    refine CW.run 9999 400 rfl ?_
    simp [Tryz.ntmps112, Tryz.results112]
    refine run_br_split (fun h => ?_) (fun h => ?_)
    · have hk : k < (adds).length := by simpa using h
      have hr : (adds)[k]? = some (adds)[k] := List.getElem?_eq_getElem hk
      have hm : (adds)[k] ∈ (adds) := List.getElem_mem hk
      have ht : (adds).take (k + 1) = (adds).take k ++ [(adds)[k]] := by rw [List.take_add_one, hr]; rfl
      have hd : (adds).drop k = (adds)[k] :: (adds).drop (k + 1) := List.drop_eq_getElem_cons hk
      have hw : IntKind.wrap .i64 ((k : Int) + 1) = k + 1 := wrap_i64 (by omega) (by omega)
      obtain ⟨x, hx⟩ : ∃ x0, (adds)[k] = x0 := ⟨_, rfl⟩
      rw [hx] at hr hm ht hd
      simp only [h]
      simp [hr, hw, Tryz.ntmps112, Tryz.results112]
      have h2 := fold_with_len (adds.take k) (gone.foldl withoutR l)
      have h3 : (adds.take k).length ≤ adds.length := by simp; omega
      refine CW.callP (with_r ((adds.take k).foldl withR (gone.foldl withoutR l)) x (by omega) (hn x hm)) Tryz.call150 rfl rfl rfl (by first | exact .inl rfl | exact .inr ⟨_, _, rfl, by simp⟩ | exact .inr ⟨_, _, rfl, by simp [*]⟩) rfl (by simp) rfl rfl (CW.runOps 9999 400 rfl ?_)
      simp [Tryz.ntmps112, Tryz.results112]
      refine hB _ ⟨k + 1, by omega⟩ [] ?_ (by simp; omega)
      constructor <;> simp [hw, ht, List.foldl_append]
    · have hkl : k = (adds).length := by simp at h; omega
      subst hkl
      simp only [h]
      simp [List.take_length, List.drop_length, Tryz.ntmps112, Tryz.results112]
      first | (exact fin0 (by simp [patchR]) rfl) | (refine ⟨by decide +kernel, ?_⟩; exact fin0 (by simp [patchR]) rfl)
theorem has_r (l : List Key) (k_ : Key) (hl : l.length ≤ 9223372036854775807) : Ct Tryz.prog 189 [lst (l.map keyC), st (keyC k_)] [] [] (bool (decide (k_ ∈ l))) [] := by
  refine Ct.of_body Tryz.func189 rfl mixed (by rw [Tryz.ntmps189]; simp) (CW.run 9999 400 rfl ?_)
  simp [Tryz.ntmps189, Tryz.results189]
  refine LoopW.inv mixed (Plain.retC _ _ _ _ _) rfl (ι := {k : Nat // k ≤ (l).length ∧ k_ ∉ l.take k}) (fun k => [(0, lst (l.map keyC)), (3, .ptr 64 0), (5, int k.1)]) (fun k => [(64, .cells ((keyC k_).map .d) 45)]) 65 (fun k => (l).length - k.1) ⟨0, by omega, by simp⟩ [] (by constructor <;> simp) ?_
  rintro ⟨k, hk1, hi⟩ B hB
  refine CW.run 9999 400 rfl ?_
  simp [Tryz.ntmps189, Tryz.results189]
  refine run_br_split (fun h => ?_) (fun h => ?_)
  · have hk : k < (l).length := by simpa using h
    have hr : (l)[k]? = some (l)[k] := List.getElem?_eq_getElem hk
    have hm : (l)[k] ∈ (l) := List.getElem_mem hk
    have ht : (l).take (k + 1) = (l).take k ++ [(l)[k]] := by rw [List.take_add_one, hr]; rfl
    have hd : (l).drop k = (l)[k] :: (l).drop (k + 1) := List.drop_eq_getElem_cons hk
    have hw : IntKind.wrap .i64 ((k : Int) + 1) = k + 1 := wrap_i64 (by omega) (by omega)
    obtain ⟨x, hx⟩ : ∃ x0, (l)[k] = x0 := ⟨_, rfl⟩
    rw [hx] at hr hm ht hd
    simp only [h]
    simp [hr, hw, Tryz.ntmps189, Tryz.results189]
    rw [key_eq]
    refine ⟨by decide +kernel, ?_⟩
    refine run_br_split (fun h1 => ?_) (fun h1 => ?_) <;> simp only [h1] <;> simp [hr, Tryz.ntmps189, Tryz.results189] <;> (try simp only [Bool.not_eq_true', Bool.not_eq_false', decide_eq_true_eq, decide_eq_false_iff_not] at h1)
    · have e : k_ ∈ l := by rw [← h1]; exact hm
      first | (exact fin0 (by simp [e]) rfl) | (refine ⟨by decide +kernel, ?_⟩; exact fin0 (by simp [e]) rfl)
    · refine hB _ ⟨k + 1, by omega, by rw [ht]; simp [hi]; exact fun e => h1 e.symm⟩ [] ?_ (by simp; omega)
      constructor <;> simp [hw]
  · have hkl : k = (l).length := by simp at h; omega
    subst hkl
    simp only [h]
    simp [List.take_length, List.drop_length, Tryz.ntmps189, Tryz.results189]
    rw [List.take_length] at hi
    first | (exact fin0 (by simp [hi]) rfl) | (refine ⟨by decide +kernel, ?_⟩; exact fin0 (by simp [hi]) rfl)
end Go.Proofs.YtnmocaniljacpaaGreatDoor
end
section
namespace Go.Proofs.YtnmocaniljacpaaGreatDoor
open Go.AI Go.G
set_option maxRecDepth 20000
end Go.Proofs.YtnmocaniljacpaaGreatDoor
end
section
namespace Go.Proofs.YtnmocaniljacpaaGreatDoor
open Go.AI Go.G
set_option maxRecDepth 20000
end Go.Proofs.YtnmocaniljacpaaGreatDoor
end
section
namespace Go.Proofs.YtnmocaniljacpaaGreatDoor
open Go.AI Go.G
set_option maxRecDepth 20000
theorem isNaN_p (a : Int) : Ct Tryz.prog 135 [int a] [] [] (bool false) [] := by
  refine Ct.of_body Tryz.func135 rfl mixed (by rw [Tryz.ntmps135]; simp) (CW.run 9999 400 rfl ?_)
  simp [Tryz.ntmps135, Tryz.results135]
  first | (exact fin0 (by simp) rfl) | (refine ⟨by decide +kernel, ?_⟩; exact fin0 (by simp) rfl)
theorem compare_p (a b : Int) : Ct Tryz.prog 99 [int a, int b] [] [] (int (if a < b then -1 else if b < a then 1 else 0)) [] := by
  refine Ct.of_body Tryz.func99 rfl mixed (by rw [Tryz.ntmps99]; simp) (CW.run 9999 400 rfl ?_)
  simp [Tryz.ntmps99, Tryz.results99]
  refine CW.callP (isNaN_p a) Tryz.call135 rfl rfl rfl (by first | exact .inl rfl | exact .inr ⟨_, _, rfl, by simp⟩ | exact .inr ⟨_, _, rfl, by simp [*]⟩) rfl (by simp) rfl rfl (CW.runOps 9999 400 rfl ?_)
  simp [Tryz.ntmps99, Tryz.results99]
  refine CW.callP (isNaN_p b) Tryz.call135 rfl rfl rfl (by first | exact .inl rfl | exact .inr ⟨_, _, rfl, by simp⟩ | exact .inr ⟨_, _, rfl, by simp [*]⟩) rfl (by simp) rfl rfl (CW.runOps 9999 400 rfl ?_)
  simp [Tryz.ntmps99, Tryz.results99]
  refine run_br_split (fun h1 => ?_) (fun h1 => ?_) <;> simp only [h1] <;> simp [Tryz.ntmps99, Tryz.results99] <;> (try simp only [Bool.not_eq_true', Bool.not_eq_false', decide_eq_true_eq, decide_eq_false_iff_not] at h1)
  · first | (exact fin0 (by simp [h1]) rfl) | (refine ⟨by decide +kernel, ?_⟩; exact fin0 (by simp [h1]) rfl)
  refine run_br_split (fun h2 => ?_) (fun h2 => ?_) <;> simp only [h2] <;> simp [Tryz.ntmps99, Tryz.results99] <;> (try simp only [Bool.not_eq_true', Bool.not_eq_false', decide_eq_true_eq, decide_eq_false_iff_not] at h2)
  · first | (exact fin0 (by simp [h1, h2]) rfl) | (refine ⟨by decide +kernel, ?_⟩; exact fin0 (by simp [h1, h2]) rfl)
  · first | (exact fin0 (by simp [h1, h2]) rfl) | (refine ⟨by decide +kernel, ?_⟩; exact fin0 (by simp [h1, h2]) rfl)
def orI (l : List Int) : Int := (l.find? fun x => !decide (x = 0)).getD 0
theorem or_p (l : List Int) (hl : l.length ≤ 9223372036854775807) : Ct Tryz.prog 98 [.own 0] [(0, .grow 1 (l.map intC) 3)] [] (int (orI l)) [] := by
  refine Ct.of_body Tryz.func98 rfl mixed (by rw [Tryz.ntmps98]; simp) (CW.run 9999 400 rfl ?_)
  simp [Tryz.ntmps98, Tryz.results98]
  refine LoopW.inv mixed (Plain.retC _ _ _ _ _) rfl (ι := {k : Nat // k ≤ (l).length ∧ (l.take k).all (fun x => !!decide (x = 0)) = true}) (fun k => [(3, int 0), (6, .own 0), (7, int l.length), (8, int k.1)]) (fun k => [(0, .grow 1 (l.map intC) 3)]) 64 (fun k => (l).length - k.1) ⟨0, by omega, by simp⟩ [] (by constructor <;> simp) ?_
  rintro ⟨k, hk1, hi⟩ B hB
  refine CW.run 9999 400 rfl ?_
  simp [Tryz.ntmps98, Tryz.results98]
  refine run_br_split (fun h => ?_) (fun h => ?_)
  · have hk : k < (l).length := by simpa using h
    have hr : (l)[k]? = some (l)[k] := List.getElem?_eq_getElem hk
    have hm : (l)[k] ∈ (l) := List.getElem_mem hk
    have ht : (l).take (k + 1) = (l).take k ++ [(l)[k]] := by rw [List.take_add_one, hr]; rfl
    have hd : (l).drop k = (l)[k] :: (l).drop (k + 1) := List.drop_eq_getElem_cons hk
    have hw : IntKind.wrap .i64 ((k : Int) + 1) = k + 1 := wrap_i64 (by omega) (by omega)
    obtain ⟨x, hx⟩ : ∃ x0, (l)[k] = x0 := ⟨_, rfl⟩
    rw [hx] at hr hm ht hd
    simp only [h]
    simp [hr, hw, hk, Tryz.ntmps98, Tryz.results98]
    refine run_br_split (fun h1 => ?_) (fun h1 => ?_) <;> simp only [h1] <;> simp [hx, Tryz.ntmps98, Tryz.results98] <;> (try simp only [Bool.not_eq_true', Bool.not_eq_false', decide_eq_true_eq, decide_eq_false_iff_not] at h1)
    · rw [hx] at h1
      have e : orI l = x := by simp [orI, find_at hi hr (by simpa using h1)]
      first | (refine ⟨[], ?_, ?_, ?_, ?_, ?_, ?_, ?_⟩ <;> simp [nmF, inB, e, hx]; done) | (refine ⟨by decide +kernel, ?_⟩; refine ⟨[], ?_, ?_, ?_, ?_, ?_, ?_, ?_⟩ <;> simp [nmF, inB, e, hx])
    · rw [hx] at h1
      refine hB _ ⟨k + 1, by omega, by rw [ht, List.all_append, hi]; simp [h1]⟩ [] ?_ (by simp; omega)
      constructor <;> simp [hw]
  · have hkl : k = (l).length := by simp at h; omega
    subst hkl
    simp only [h]
    simp [List.take_length, List.drop_length, Tryz.ntmps98, Tryz.results98]
    rw [List.take_length] at hi
    have e : orI l = 0 := by simp [orI, find_none hi]
    first | (refine ⟨[], ?_, ?_, ?_, ?_, ?_, ?_, ?_⟩ <;> simp [nmF, inB, e]; done) | (refine ⟨by decide +kernel, ?_⟩; refine ⟨[], ?_, ?_, ?_, ?_, ?_, ?_, ?_⟩ <;> simp [nmF, inB, e])
theorem cmpK_p (a b : Key) : Ct Tryz.prog 54 [st (keyC a), st (keyC b)] [] [] (int (cmpK a b)) [] := by
  refine Ct.of_body Tryz.func54 rfl mixed (by rw [Tryz.ntmps54]; simp) (CW.run 9999 400 rfl ?_)
  simp [Tryz.ntmps54, Tryz.results54]
  refine CW.callP (compare_p a.kind b.kind) Tryz.call99 rfl rfl rfl (by first | exact .inl rfl | exact .inr ⟨_, _, rfl, by simp⟩ | exact .inr ⟨_, _, rfl, by simp [*]⟩) rfl (by simp) rfl rfl (CW.runOps 9999 400 rfl ?_)
  simp [Tryz.ntmps54, Tryz.results54]
  refine CW.callP (cmp_p a.name b.name) Tryz.call100 rfl rfl rfl (by first | exact .inl rfl | exact .inr ⟨_, _, rfl, by simp⟩ | exact .inr ⟨_, _, rfl, by simp [*]⟩) rfl (by simp) rfl rfl (CW.runOps 9999 400 rfl ?_)
  simp [Tryz.ntmps54, Tryz.results54]
  refine CW.callC [896] (or_p [if a.kind < b.kind then -1 else if b.kind < a.kind then 1 else 0, cmpS a.name b.name] (by simp)) Tryz.call98 rfl rfl rfl (by first | exact .inl rfl | exact .inr ⟨_, _, rfl, by simp⟩ | exact .inr ⟨_, _, rfl, by simp [*]⟩) rfl (by simp) (by constructor <;> simp [nmOk]) (by simp) (CW.runOps 9999 400 rfl ?_)
  simp [Tryz.ntmps54, Tryz.results54]
  refine ⟨by decide +kernel, ?_⟩
  have e : orI [if a.kind < b.kind then -1 else if b.kind < a.kind then 1 else 0, cmpS a.name b.name] = cmpK a b := by
    unfold orI cmpK
    by_cases h1 : a.kind < b.kind
    · simp [h1]
    · by_cases h2 : b.kind < a.kind
      · simp [h1, h2]
      · by_cases h3 : cmpS a.name b.name = 0 <;> simp [h1, h2, h3]
  first | (exact fin0 (by simp [e]) rfl) | (refine ⟨by decide +kernel, ?_⟩; exact fin0 (by simp [e]) rfl)
theorem isP (k_ : Key) (r : Res) : Ct Tryz.prog 90 [st (resC r), .d (.pro (keyC k_))] [] [] (bool (decide (r.key = k_))) [] := by
  refine Ct.of_body Tryz.func90 rfl mixed (by rw [Tryz.ntmps90]; simp) (CW.run 9999 400 rfl ?_)
  simp [Tryz.ntmps90, Tryz.results90]
  refine CW.callP (key_p r) Tryz.call32 rfl rfl rfl (by first | exact .inl rfl | exact .inr ⟨_, _, rfl, by simp⟩ | exact .inr ⟨_, _, rfl, by simp [*]⟩) rfl (by simp) rfl rfl (CW.runOps 9999 400 rfl ?_)
  simp [Tryz.ntmps90, Tryz.results90]
  rw [key_eq]
  refine ⟨by decide +kernel, ?_⟩
  first | (exact fin0 (by simp) rfl) | (refine ⟨by decide +kernel, ?_⟩; exact fin0 (by simp) rfl)
theorem is_p (k_ : Key) : Ct Tryz.prog 50 [st (keyC k_)] [] [] (.d (.fn (.func 90) [] [.pro (keyC k_)])) [] := by
  refine Ct.of_body Tryz.func50 rfl mixed (by rw [Tryz.ntmps50]; simp) (CW.run 9999 400 rfl ?_)
  simp [Tryz.ntmps50, Tryz.results50]
  first | (exact fin0 (by simp) rfl) | (refine ⟨by decide +kernel, ?_⟩; exact fin0 (by simp) rfl)
theorem get_p (l : List Res) (k_ : Key) (hl : l.length ≤ 9223372036854775807) : Ct Tryz.prog 17 [lst (l.map resC), st (keyC k_)] [] [] (getA l k_) [] := by
  refine Ct.of_body Tryz.func17 rfl mixed (by rw [Tryz.ntmps17]; simp) (CW.run 9999 400 rfl ?_)
  simp [Tryz.ntmps17, Tryz.results17]
  refine CW.callP (is_p k_) Tryz.call50 rfl rfl rfl (by first | exact .inl rfl | exact .inr ⟨_, _, rfl, by simp⟩ | exact .inr ⟨_, _, rfl, by simp [*]⟩) rfl (by simp) rfl rfl (CW.runOps 9999 400 rfl ?_)
  simp [Tryz.ntmps17, Tryz.results17]
  refine CW.callP (idx_res l (.fn (.func 90) [] [.pro (keyC k_)]) (fun r => decide (r.key = k_)) (fun r hr => FnOk.clo (by exact isP k_ r) Tryz.call90 rfl rfl) hl) Tryz.call49 rfl rfl rfl (by first | exact .inl rfl | exact .inr ⟨_, _, rfl, by simp⟩ | exact .inr ⟨_, _, rfl, by simp [*]⟩) rfl (by simp) rfl rfl (CW.runOps 9999 400 rfl ?_)
  simp [Tryz.ntmps17, Tryz.results17]
  rcases find_idx (fun r : Res => decide (r.key = k_)) l with ⟨h1, h2⟩ | ⟨i, x, h1, h2, h3, h4⟩
  · have e : getR l k_ = none := h2
    simp [h1, Tryz.ntmps17, Tryz.results17]
    first | (exact fin0 (by simp [e, zRes]) rfl) | (refine ⟨by decide +kernel, ?_⟩; exact fin0 (by simp [e, zRes]) rfl)
  · have e : getR l k_ = some x := h4
    have hx : l[i] = x := by rw [List.getElem?_eq_getElem h2] at h3; exact Option.some.inj h3
    simp [h1, h2, h3, hx, Tryz.ntmps17, Tryz.results17]
    first | (exact fin0 (by simp [e]) rfl) | (refine ⟨by decide +kernel, ?_⟩; exact fin0 (by simp [e]) rfl)
theorem filter_p (l : List Res) (kf : D) (p : Res → Bool) (hf : ∀ x ∈ l, FnOk Tryz.prog (.d kf) [st (resC x)] (bool (p x))) (hl : l.length ≤ 1000000) : Ct Tryz.prog 81 [lst (l.map resC), .d kf] [] [] (lst ((l.filter p).map resC)) [] := by
  refine Ct.of_body Tryz.func81 rfl mixed (by rw [Tryz.ntmps81]; simp) (CW.run 9999 400 rfl ?_)
  simp [Tryz.ntmps81, Tryz.results81]
  refine LoopW.nilOwn 5 7 51 rfl ?_
  refine LoopW.inv mixed (Plain.retC _ _ _ _ _) rfl (ι := {k : Nat // k ≤ (l).length}) (fun k => [(0, lst (l.map resC)), (1, .d kf), (5, .own 64), (8, lst (l.map resC)), (9, int l.length), (10, int k.1)]) (fun k => [(64, .grow 7 (((l.take k.1).filter p).map resC) 51)]) 65 (fun k => (l).length - k.1) ⟨0, by omega⟩ [] (by constructor <;> simp) ?_
  rintro ⟨k, hk1⟩ B hB
  refine CW.run 9999 400 rfl ?_
  simp [Tryz.ntmps81, Tryz.results81]
  refine run_br_split (fun h => ?_) (fun h => ?_)
  · have hk : k < (l).length := by simpa using h
    have hr : (l)[k]? = some (l)[k] := List.getElem?_eq_getElem hk
    have hm : (l)[k] ∈ (l) := List.getElem_mem hk
    have ht : (l).take (k + 1) = (l).take k ++ [(l)[k]] := by rw [List.take_add_one, hr]; rfl
    have hd : (l).drop k = (l)[k] :: (l).drop (k + 1) := List.drop_eq_getElem_cons hk
    have hw : IntKind.wrap .i64 ((k : Int) + 1) = k + 1 := wrap_i64 (by omega) (by omega)
    obtain ⟨x, hx⟩ : ∃ x0, (l)[k] = x0 := ⟨_, rfl⟩
    rw [hx] at hr hm ht hd
    simp only [h]
    simp [hr, hw, Tryz.ntmps81, Tryz.results81]
    have hlen : ((l.take k).filter p).length ≤ 1000000 := Nat.le_trans (List.length_filter_le _ _) (by simp; omega)
    refine CW.callF (hf x hm) rfl rfl rfl (by first | exact .inl rfl | exact .inr ⟨_, _, rfl, by simp⟩ | exact .inr ⟨_, _, rfl, by simp [*]⟩) rfl (by simp) (CW.runOps 9999 400 rfl ?_)
    simp [Tryz.ntmps81, Tryz.results81]
    refine run_br_split (fun h1 => ?_) (fun h1 => ?_) <;> simp only [h1] <;> simp [hr, Tryz.ntmps81, Tryz.results81] <;> (try simp only [Bool.not_eq_true', Bool.not_eq_false', decide_eq_true_eq, decide_eq_false_iff_not] at h1)
    · refine ⟨by omega, ?_⟩
      refine hB _ ⟨k + 1, by omega⟩ [] ?_ (by simp; omega)
      constructor <;> simp [hw, ht, List.filter_append, h1]
    · refine hB _ ⟨k + 1, by omega⟩ [] ?_ (by simp; omega)
      constructor <;> simp [hw, ht, List.filter_append, h1]
  · have hkl : k = (l).length := by simp at h; omega
    subst hkl
    simp only [h]
    simp [List.take_length, List.drop_length, Tryz.ntmps81, Tryz.results81]
    first | (exact fin0 (by simp) rfl) | (refine ⟨by decide +kernel, ?_⟩; exact fin0 (by simp) rfl)
theorem withP2 (k_ : Key) (c : Int) (r : Res) : Ct Tryz.prog 88 [st (resC r), .d (.pro (keyC k_)), .d (.pro [iD c])] [] [] (bool (decide (cmpK r.key k_ = c))) [] := by
  refine Ct.of_body Tryz.func88 rfl mixed (by rw [Tryz.ntmps88]; simp) (CW.run 9999 400 rfl ?_)
  simp [Tryz.ntmps88, Tryz.results88]
  refine CW.callP (key_p r) Tryz.call32 rfl rfl rfl (by first | exact .inl rfl | exact .inr ⟨_, _, rfl, by simp⟩ | exact .inr ⟨_, _, rfl, by simp [*]⟩) rfl (by simp) rfl rfl (CW.runOps 9999 400 rfl ?_)
  simp [Tryz.ntmps88, Tryz.results88]
  refine CW.callP (cmpK_p r.key k_) Tryz.call54 rfl rfl rfl (by first | exact .inl rfl | exact .inr ⟨_, _, rfl, by simp⟩ | exact .inr ⟨_, _, rfl, by simp [*]⟩) rfl (by simp) rfl rfl (CW.runOps 9999 400 rfl ?_)
  simp [Tryz.ntmps88, Tryz.results88]
  refine ⟨by decide +kernel, ?_⟩
  first | (exact fin0 (by simp) rfl) | (refine ⟨by decide +kernel, ?_⟩; exact fin0 (by simp) rfl)
theorem withP1 (l : List Res) (k_ : Key) (c : Int) (hl : l.length ≤ 1000000) : Ct Tryz.prog 87 [int c, .d (.pro [lD (l.map resC)]), .d (.pro (keyC k_))] [] [] (lst ((partR l k_ c).map resC)) [] := by
  refine Ct.of_body Tryz.func87 rfl mixed (by rw [Tryz.ntmps87]; simp) (CW.run 1 400 rfl ?_)
  simp [Tryz.ntmps87, Tryz.results87]
  refine CW.sub (tm := [(1, .d (.pro [lD (l.map resC)])), (2, .d (.pro (keyC k_))), (3, .d (.pro [iD c]))]) (m := []) (nx := 65) [] [64] rfl (by constructor <;> simp) ?_
  refine CW.run 9999 400 rfl ?_
  simp [Tryz.ntmps87, Tryz.results87]
  refine CW.callP (filter_p l (.fn (.func 88) [] [.pro (keyC k_), .pro [iD c]]) (fun r => decide (cmpK r.key k_ = c)) (fun r hr => FnOk.clo (by exact withP2 k_ c r) Tryz.call88 rfl rfl) hl) Tryz.call81 rfl rfl rfl (by first | exact .inl rfl | exact .inr ⟨_, _, rfl, by simp⟩ | exact .inr ⟨_, _, rfl, by simp [*]⟩) rfl (by simp) rfl rfl (CW.runOps 9999 400 rfl ?_)
  simp [Tryz.ntmps87, Tryz.results87]
  first | (exact fin0 (by simp) rfl) | (refine ⟨by decide +kernel, ?_⟩; exact fin0 (by simp) rfl)
end Go.Proofs.YtnmocaniljacpaaGreatDoor
end
section
namespace Go.Proofs.YtnmocaniljacpaaGreatDoor
open Go.AI Go.G
set_option maxRecDepth 20000
abbrev zResD : List D := [iD 0, sD ⟨#[]⟩, iD 0, iD 0, sD ⟨#[]⟩, .v (.slice none 0 0), .v (.slice none 0 0)]
theorem growR (n : Int) (h0 : 0 < n) (h1 : n ≤ 2000000) : Ct Tryz.prog 118 [.d (.v (.slice none 0 0)), int n] [] [] (.sl 64 7 0 0) [(64, .grow 7 (List.replicate n.toNat zResD) 51)] := by
  refine Ct.of_body Tryz.func118 rfl mixed (by rw [Tryz.ntmps118]; simp) (CW.run 9999 400 rfl ?_)
  simp [Tryz.ntmps118, Tryz.results118]
  have g1 : ¬ n < 0 := by omega
  have g2 : IntKind.wrap .i64 n = n := wrap_i64 (by omega) (by omega)
  simp [g1, g2, h0, Tryz.ntmps118, Tryz.results118]
  refine ⟨⟨by omega, by omega⟩, by omega, ?_⟩
  first | (refine ⟨[(64, 1216)], ?_, ?_, ?_, ?_, ?_, ?_, ?_⟩ <;> simp [nmF, inB, zResD]; done) | (refine ⟨by decide +kernel, ?_⟩; refine ⟨[(64, 1216)], ?_, ?_, ?_, ?_, ?_, ?_, ?_⟩ <;> simp [nmF, inB, zResD])
theorem concat3 (a b c : List Res) (h0 : 0 < a.length + b.length + c.length) (h1 : a.length + b.length + c.length ≤ 2000000) : Ct Tryz.prog 89 [.own 0] [(0, .grow 1 [[lD (a.map resC)], [lD (b.map resC)], [lD (c.map resC)]] 29)] [] (.own 64) [(64, .grow 7 ((a ++ b ++ c).map resC) 51)] := by
  refine Ct.of_body Tryz.func89 rfl mixed (by rw [Tryz.ntmps89]; simp) (CW.run 9999 400 rfl ?_)
  simp [Tryz.ntmps89, Tryz.results89]
  have w1 : IntKind.wrap .i64 (a.length : Int) = a.length := wrap_i64 (by omega) (by omega)
  have w2 : IntKind.wrap .i64 ((a.length : Int) + b.length) = a.length + b.length := wrap_i64 (by omega) (by omega)
  have w3 : IntKind.wrap .i64 ((a.length : Int) + b.length + c.length) = a.length + b.length + c.length := wrap_i64 (by omega) (by omega)
  have v1 : ¬ ((a.length : Int) < 0) := by omega
  have v2 : ¬ ((a.length : Int) + b.length < 0) := by omega
  have v3 : ¬ ((a.length : Int) + b.length + c.length < 0) := by omega
  refine LoopW.unroll mixed (Plain.retC _ _ _ _ _) rfl ?_
  refine CW.run 9999 400 rfl ?_
  simp [w1, v1, Tryz.ntmps89, Tryz.results89]
  refine LoopW.unroll mixed (Plain.retC _ _ _ _ _) rfl ?_
  refine CW.run 9999 400 rfl ?_
  simp [w2, v2, Tryz.ntmps89, Tryz.results89]
  refine LoopW.unroll mixed (Plain.retC _ _ _ _ _) rfl ?_
  refine CW.run 9999 400 rfl ?_
  simp [w3, v3, Tryz.ntmps89, Tryz.results89]
  refine LoopW.unroll mixed (Plain.retC _ _ _ _ _) rfl ?_
  refine CW.run 9999 400 rfl ?_
  simp [Tryz.ntmps89, Tryz.results89]
  refine CW.callC [] (growR ((a.length : Int) + b.length + c.length) (by omega) (by omega)) Tryz.call118 rfl rfl rfl (by first | exact .inl rfl | exact .inr ⟨_, _, rfl, by simp⟩ | exact .inr ⟨_, _, rfl, by simp [*]⟩) rfl (by simp) (by constructor <;> simp [nmOk]) (by simp) (CW.runOps 9999 400 rfl ?_)
  simp [Tryz.ntmps89, Tryz.results89]
  refine LoopW.unroll mixed (Plain.retC _ _ _ _ _) rfl ?_
  refine CW.run 9999 400 rfl ?_
  simp [Tryz.ntmps89, Tryz.results89]
  refine ⟨by omega, ?_⟩
  refine LoopW.unroll mixed (Plain.retC _ _ _ _ _) rfl ?_
  refine CW.run 9999 400 rfl ?_
  simp [Tryz.ntmps89, Tryz.results89]
  refine ⟨by omega, ?_⟩
  refine LoopW.unroll mixed (Plain.retC _ _ _ _ _) rfl ?_
  refine CW.run 9999 400 rfl ?_
  simp [Tryz.ntmps89, Tryz.results89]
  refine ⟨by omega, ?_⟩
  refine LoopW.unroll mixed (Plain.retC _ _ _ _ _) rfl ?_
  refine CW.run 9999 400 rfl ?_
  simp [Tryz.ntmps89, Tryz.results89]
  first | (refine ⟨[(64, 4992)], ?_, ?_, ?_, ?_, ?_, ?_, ?_⟩ <;> simp [nmF, inB]; done) | (refine ⟨by decide +kernel, ?_⟩; refine ⟨[(64, 4992)], ?_, ?_, ?_, ?_, ?_, ?_, ?_⟩ <;> simp [nmF, inB])
theorem with_p (l : List Res) (r : Res) (hl : l.length ≤ 1000000) : Ct Tryz.prog 48 [lst (l.map resC), st (resC r)] [] [] (lst ((withR l r).map resC)) [] := by
  refine Ct.of_body Tryz.func48 rfl mixed (by rw [Tryz.ntmps48]; simp) (CW.run 2 400 rfl ?_)
  simp [Tryz.ntmps48, Tryz.results48]
  refine CW.callP (key_p r) Tryz.call32 rfl rfl rfl (by first | exact .inl rfl | exact .inr ⟨_, _, rfl, by simp⟩ | exact .inr ⟨_, _, rfl, by simp [*]⟩) rfl (by simp) rfl rfl (CW.runOps 2 400 rfl ?_)
  simp [Tryz.ntmps48, Tryz.results48]
  refine CW.sub (tm := [(2, .d (.pro [lD (l.map resC)])), (3, .ptr 64 0), (5, .d (.pro (keyC r.key)))]) (m := [(64, .cells ((resC r).map .d) 51)]) (nx := 65) [(64, 128)] [64, 384] rfl (by constructor <;> simp) ?_
  refine CW.run 9999 400 rfl ?_
  simp [Tryz.ntmps48, Tryz.results48]
  refine CW.callF (FnOk.clo (args := [int (-1)]) (by exact withP1 l r.key (-1) hl) Tryz.call87 rfl rfl) rfl rfl rfl (by first | exact .inl rfl | exact .inr ⟨_, _, rfl, by simp⟩ | exact .inr ⟨_, _, rfl, by simp [*]⟩) rfl (by simp) (CW.runOps 9999 400 rfl ?_)
  simp [Tryz.ntmps48, Tryz.results48]
  refine CW.callF (FnOk.clo (args := [int 1]) (by exact withP1 l r.key 1 hl) Tryz.call87 rfl rfl) rfl rfl rfl (by first | exact .inl rfl | exact .inr ⟨_, _, rfl, by simp⟩ | exact .inr ⟨_, _, rfl, by simp [*]⟩) rfl (by simp) (CW.runOps 9999 400 rfl ?_)
  simp [Tryz.ntmps48, Tryz.results48]
  have h1 := withR_len l r
  simp only [withR, List.length_append, List.length_cons, List.length_nil] at h1
  refine CW.callC [577] (concat3 (partR l r.key (-1)) [r] (partR l r.key 1) (by simp; omega) (by simp only [List.length_cons, List.length_nil]; omega)) Tryz.call89 rfl rfl rfl (by first | exact .inl rfl | exact .inr ⟨_, _, rfl, by simp⟩ | exact .inr ⟨_, _, rfl, by simp [*]⟩) rfl (by simp) (by constructor <;> simp [nmOk]) (by simp) (CW.runOps 9999 400 rfl ?_)
  simp [Tryz.ntmps48, Tryz.results48]
  first | (exact fin0 (by simp) rfl) | (refine ⟨by decide +kernel, ?_⟩; exact fin0 (by simp) rfl)
theorem cloneE : Ct Tryz.prog 106 [lst []] [] [] (lst []) [] := by
  refine Ct.of_body Tryz.func106 rfl mixed (by rw [Tryz.ntmps106]; simp) (CW.run 9999 400 rfl ?_)
  simp [Tryz.ntmps106, Tryz.results106]
  refine ⟨?_, ?_⟩
  · first | (exact fin0 (by simp) rfl) | (refine ⟨by decide +kernel, ?_⟩; exact fin0 (by simp) rfl)
  · first | (exact fin0 (by simp) rfl) | (refine ⟨by decide +kernel, ?_⟩; exact fin0 (by simp) rfl)
theorem clone_p (x : Res) (l : List Res) (hl : l.length ≤ 1000000) : Ct Tryz.prog 106 [lst ((x :: l).map resC)] [] [] (.own 64) [(64, .grow 7 ((x :: l).map resC) 51)] := by
  refine Ct.of_body Tryz.func106 rfl mixed (by rw [Tryz.ntmps106]; simp) (CW.run 9999 400 rfl ?_)
  simp [Tryz.ntmps106, Tryz.results106]
  refine ⟨by omega, ?_⟩
  first | (refine ⟨[(64, 384)], ?_, ?_, ?_, ?_, ?_, ?_, ?_⟩ <;> simp [nmF, inB]; done) | (refine ⟨by decide +kernel, ?_⟩; refine ⟨[(64, 384)], ?_, ?_, ?_, ?_, ?_, ?_, ?_⟩ <;> simp [nmF, inB])
theorem idxO_res (l : List Res) (kf : D) (p : Res → Bool) (hf : ∀ x ∈ l, FnOk Tryz.prog (.d kf) [st (resC x)] (bool (p x))) (hl : l.length ≤ 9223372036854775807) : Ct Tryz.prog 49 [.own 0, .d kf] [(0, .grow 7 (l.map resC) 51)] [] (int (idxF p l)) [] := by
  refine Ct.of_body Tryz.func49 rfl mixed (by rw [Tryz.ntmps49]; simp) (CW.run 9999 400 rfl ?_)
  simp [Tryz.ntmps49, Tryz.results49]
  refine LoopW.inv mixed (Plain.retC _ _ _ _ _) rfl (ι := {k : Nat // k ≤ (l).length ∧ (l.take k).all (fun x => !p x) = true}) (fun k => [(0, .own 0), (1, .d kf), (7, int l.length), (8, int k.1)]) (fun k => [(0, .grow 7 (l.map resC) 51)]) 64 (fun k => (l).length - k.1) ⟨0, by omega, by simp⟩ [] (by constructor <;> simp) ?_
  rintro ⟨k, hk1, hi⟩ B hB
  refine CW.run 9999 400 rfl ?_
  simp [Tryz.ntmps49, Tryz.results49]
  refine run_br_split (fun h => ?_) (fun h => ?_)
  · have hk : k < (l).length := by simpa using h
    have hr : (l)[k]? = some (l)[k] := List.getElem?_eq_getElem hk
    have hm : (l)[k] ∈ (l) := List.getElem_mem hk
    have ht : (l).take (k + 1) = (l).take k ++ [(l)[k]] := by rw [List.take_add_one, hr]; rfl
    have hd : (l).drop k = (l)[k] :: (l).drop (k + 1) := List.drop_eq_getElem_cons hk
    have hw : IntKind.wrap .i64 ((k : Int) + 1) = k + 1 := wrap_i64 (by omega) (by omega)
    obtain ⟨r, hx⟩ : ∃ x0, (l)[k] = x0 := ⟨_, rfl⟩
    rw [hx] at hr hm ht hd
    simp only [h]
    simp [hr, hw, hk, Tryz.ntmps49, Tryz.results49]
    refine CW.callF (hf r hm) rfl rfl rfl (by first | exact .inl rfl | exact .inr ⟨_, _, rfl, by simp⟩ | exact .inr ⟨_, _, rfl, by simp [*]⟩) rfl (by simp [hx]) (CW.runOps 9999 400 rfl ?_)
    simp [hx, Tryz.ntmps49, Tryz.results49]
    refine run_br_split (fun hp => ?_) (fun hp => ?_) <;> simp only [hp] <;> simp [Tryz.ntmps49, Tryz.results49]
    · have e := idxF_at hi hr hp
      first | (refine ⟨[], ?_, ?_, ?_, ?_, ?_, ?_, ?_⟩ <;> simp [nmF, inB, e]; done) | (refine ⟨by decide +kernel, ?_⟩; refine ⟨[], ?_, ?_, ?_, ?_, ?_, ?_, ?_⟩ <;> simp [nmF, inB, e])
    · refine hB _ ⟨k + 1, by omega, by simp [ht, hi, hp]⟩ [] ?_ (by simp; omega)
      constructor <;> simp [hw, ht, hp]
  · have hkl : k = (l).length := by simp at h; omega
    subst hkl
    simp only [h]
    simp [List.take_length, List.drop_length, Tryz.ntmps49, Tryz.results49]
    rw [List.take_length] at hi
    have e : idxF p l = -1 := idxF_none (fun x hx => by have := List.all_eq_true.1 hi x hx; simpa using this)
    first | (refine ⟨[], ?_, ?_, ?_, ?_, ?_, ?_, ?_⟩ <;> simp [nmF, inB, e]; done) | (refine ⟨by decide +kernel, ?_⟩; refine ⟨[], ?_, ?_, ?_, ?_, ?_, ?_, ?_⟩ <;> simp [nmF, inB, e])
theorem delE (kf : D) : Ct Tryz.prog 105 [lst [], .d kf] [] [] (lst []) [] := by
  refine Ct.of_body Tryz.func105 rfl mixed (by rw [Tryz.ntmps105]; simp) (CW.run 9999 400 rfl ?_)
  simp [Tryz.ntmps105, Tryz.results105]
  refine CW.callP (idx_res [] kf (fun _ => false) (fun x hx => by simp at hx) (by simp)) Tryz.call49 rfl rfl rfl (by first | exact .inl rfl | exact .inr ⟨_, _, rfl, by simp⟩ | exact .inr ⟨_, _, rfl, by simp [*]⟩) rfl (by simp) rfl rfl (CW.runOps 9999 400 rfl ?_)
  simp [Tryz.ntmps105, Tryz.results105]
  simp [idxF, Tryz.ntmps105, Tryz.results105]
  first | (exact fin0 (by simp) rfl) | (refine ⟨by decide +kernel, ?_⟩; exact fin0 (by simp) rfl)
theorem delC (l : List Res) (kf : D) (p : Res → Bool) (hf : ∀ x ∈ l, FnOk Tryz.prog (.d kf) [st (resC x)] (bool (p x))) (hl : l.length ≤ 1000000) : Ct Tryz.prog 105 [.own 0, .d kf] [] [(0, .grow 7 (l.map resC) 51)] (lst ((l.filter fun x => !p x).map resC)) [] := by
  refine Ct.of_body Tryz.func105 rfl mixed (by rw [Tryz.ntmps105]; simp) (CW.run 9999 400 rfl ?_)
  simp [Tryz.ntmps105, Tryz.results105]
  refine CW.callC [0] (idxO_res l kf p hf (by omega)) Tryz.call49 rfl rfl rfl (by first | exact .inl rfl | exact .inr ⟨_, _, rfl, by simp⟩ | exact .inr ⟨_, _, rfl, by simp [*]⟩) rfl (by simp) (by constructor <;> simp [nmOk]) (by simp) (CW.runOps 9999 400 rfl ?_)
  simp [Tryz.ntmps105, Tryz.results105]
  rcases find_idx p l with ⟨h1, h2⟩ | ⟨i, x, h1, h2, h3, h4⟩
  · have e : (l.filter fun x => !p x) = l := by
      rw [List.filter_eq_self]; intro a ha
      have := List.find?_eq_none.1 h2 a ha; simpa using this
    simp [h1, Tryz.ntmps105, Tryz.results105]
    first | (refine ⟨[], ?_, ?_, ?_, ?_, ?_, ?_, ?_⟩ <;> simp [nmF, inB, e]; done) | (refine ⟨by decide +kernel, ?_⟩; refine ⟨[], ?_, ?_, ?_, ?_, ?_, ?_, ?_⟩ <;> simp [nmF, inB, e])
  · have hne : ¬ (i : Int) = -1 := by omega
    have hwi : IntKind.wrap .i64 ((i : Int) + 1) = i + 1 := wrap_i64 (by omega) (by omega)
    simp [h1, hne, hwi, Tryz.ntmps105, Tryz.results105]
    have d0 := DelSt.start (x := x) h1 h2
    refine LoopW.inv mixed (Plain.retC _ _ _ _ _) rfl (ι := {q : Nat × Nat × List Res // DelSt p l q.1 q.2.1 q.2.2}) (fun k => [(0, .own 0), (1, .d kf), (5, int k.1.2.1), (6, int k.1.1)]) (fun k => [(0, .grow 7 (k.1.2.2.map resC) 51)]) 64 (fun k => l.length - k.1.1) ⟨(i + 1, i, l), d0⟩ [] (by constructor <;> simp) ?_
    rintro ⟨⟨j, i, cur⟩, hd⟩ B hB
    clear h1 h2 h3 h4 hne hwi d0
    have hlen := hd.len
    have hlt := hd.lt
    have hle := hd.le
    simp only at hlen hlt hle
    have w1 : IntKind.wrap .i64 ((j : Int) + 1) = j + 1 := wrap_i64 (by omega) (by omega)
    have w2 : IntKind.wrap .i64 ((i : Int) + 1) = i + 1 := wrap_i64 (by omega) (by omega)
    refine CW.run 9999 400 rfl ?_
    simp [hlen, Tryz.ntmps105, Tryz.results105]
    refine run_br_split (fun h => ?_) (fun h => ?_) <;> simp only [h] <;> simp [Tryz.ntmps105, Tryz.results105] <;> (try simp only [Bool.not_eq_true', Bool.not_eq_false', decide_eq_true_eq, decide_eq_false_iff_not] at h)
    · have hj : j < l.length := by omega
      have hv : l[j]? = some l[j] := List.getElem?_eq_getElem hj
      have hm : l[j] ∈ l := List.getElem_mem hj
      generalize l[j] = v at hv hm
      have hg := hd.get hv
      have hjc : j < cur.length := by omega
      have hgx : cur[j] = v := by rw [List.getElem?_eq_getElem hjc] at hg; exact Option.some.inj hg
      simp [hjc, hgx, Tryz.ntmps105, Tryz.results105]
      refine CW.callF (hf v hm) rfl rfl rfl (by first | exact .inl rfl | exact .inr ⟨_, _, rfl, by simp⟩ | exact .inr ⟨_, _, rfl, by simp [*]⟩) rfl (by simp) (CW.runOps 9999 400 rfl ?_)
      simp [Tryz.ntmps105, Tryz.results105]
      have hic : i < cur.length := by omega
      refine run_br_split (fun h2 => ?_) (fun h2 => ?_) <;> simp only [h2] <;> simp [hic, Tryz.ntmps105, Tryz.results105]
      · have hp : p v = false := by simpa using h2
        refine hB _ ⟨(j + 1, i + 1, cur.set i v), hd.keep hv hp⟩ [] ?_ (by simp; omega)
        constructor <;> simp [w1, w2, List.map_set]
      · have hp : p v = true := by simpa using h2
        refine hB _ ⟨(j + 1, i, cur), hd.del hv hp⟩ [] ?_ (by simp; omega)
        constructor <;> simp [w1]
    · have hj : j = l.length := by omega
      subst hj
      have e : cur.take i = l.filter (fun x => !p x) := hd.done
      simp [hlen, Tryz.ntmps105, Tryz.results105]
      have e2 : List.take i (List.map resC cur) = List.map resC (List.filter (fun x => !p x) l) := by rw [← List.map_take, e]
      have e3 : (List.filter (fun x => !p x) l).length = i := by rw [← e, List.length_take]; omega
      refine ⟨by omega, by omega, by omega, ?_⟩
      rw [e2]
      first | (refine ⟨[], ?_, ?_, ?_, ?_, ?_, ?_, ?_⟩ <;> simp [nmF, inB, e3, List.take_append, show i ≤ i + (l.length - i + (l.length - (i + (l.length - i)))) from by omega]; done) | (refine ⟨by decide +kernel, ?_⟩; refine ⟨[], ?_, ?_, ?_, ?_, ?_, ?_, ?_⟩ <;> simp [nmF, inB, e3, List.take_append, show i ≤ i + (l.length - i + (l.length - (i + (l.length - i)))) from by omega])
theorem without_p (l : List Res) (k_ : Key) (hl : l.length ≤ 1000000) : Ct Tryz.prog 114 [lst (l.map resC), st (keyC k_)] [] [] (lst ((withoutR l k_).map resC)) [] := by
  refine Ct.of_body Tryz.func114 rfl mixed (by rw [Tryz.ntmps114]; simp) (CW.run 9999 400 rfl ?_)
  simp [Tryz.ntmps114, Tryz.results114]
  cases l with
  | nil =>
    refine CW.callP (cloneE ) Tryz.call106 rfl rfl rfl (by first | exact .inl rfl | exact .inr ⟨_, _, rfl, by simp⟩ | exact .inr ⟨_, _, rfl, by simp [*]⟩) rfl (by simp) rfl rfl (CW.runOps 9999 400 rfl ?_)
    simp [Tryz.ntmps114, Tryz.results114]
    refine CW.callP (is_p k_) Tryz.call50 rfl rfl rfl (by first | exact .inl rfl | exact .inr ⟨_, _, rfl, by simp⟩ | exact .inr ⟨_, _, rfl, by simp [*]⟩) rfl (by simp) rfl rfl (CW.runOps 9999 400 rfl ?_)
    simp [Tryz.ntmps114, Tryz.results114]
    refine CW.callP (delE (.fn (.func 90) [] [.pro (keyC k_)])) Tryz.call105 rfl rfl rfl (by first | exact .inl rfl | exact .inr ⟨_, _, rfl, by simp⟩ | exact .inr ⟨_, _, rfl, by simp [*]⟩) rfl (by simp) rfl rfl (CW.runOps 9999 400 rfl ?_)
    simp [Tryz.ntmps114, Tryz.results114]
    first | (exact fin0 (by simp) rfl) | (refine ⟨by decide +kernel, ?_⟩; exact fin0 (by simp) rfl)
  | cons x l =>
    refine CW.callC [] (clone_p x l (by simp at hl; omega)) Tryz.call106 rfl rfl rfl (by first | exact .inl rfl | exact .inr ⟨_, _, rfl, by simp⟩ | exact .inr ⟨_, _, rfl, by simp [*]⟩) rfl (by simp) (by constructor <;> simp [nmOk]) (by simp) (CW.runOps 9999 400 rfl ?_)
    simp [Tryz.ntmps114, Tryz.results114]
    refine CW.callP (is_p k_) Tryz.call50 rfl rfl rfl (by first | exact .inl rfl | exact .inr ⟨_, _, rfl, by simp⟩ | exact .inr ⟨_, _, rfl, by simp [*]⟩) rfl (by simp) rfl rfl (CW.runOps 9999 400 rfl ?_)
    simp [Tryz.ntmps114, Tryz.results114]
    refine CW.callC [256] (delC (x :: l) (.fn (.func 90) [] [.pro (keyC k_)]) (fun r => decide (r.key = k_)) (fun r hr => FnOk.clo (by exact isP k_ r) Tryz.call90 rfl rfl) hl) Tryz.call105 rfl rfl rfl (by first | exact .inl rfl | exact .inr ⟨_, _, rfl, by simp⟩ | exact .inr ⟨_, _, rfl, by simp [*]⟩) rfl (by simp) (by constructor <;> simp [nmOk]) (by simp) (CW.runOps 9999 400 rfl ?_)
    simp [Tryz.ntmps114, Tryz.results114]
    first | (exact fin0 (by simp) rfl) | (refine ⟨by decide +kernel, ?_⟩; exact fin0 (by simp) rfl)
theorem patch_p (l adds : List Res) (gone : List Key) (hl : l.length + adds.length ≤ 1000000) (hg : gone.length ≤ 9223372036854775807) : Ct Tryz.prog 74 [lst (l.map resC), lst (adds.map resC), lst (gone.map keyC)] [] [] (lst ((patchR l adds gone).map resC)) [] := by
  refine Ct.of_body Tryz.func74 rfl mixed (by rw [Tryz.ntmps74]; simp) (CW.run 9999 400 rfl ?_)
  simp [Tryz.ntmps74, Tryz.results74]
  refine LoopW.inv mixed (Plain.retC _ _ _ _ _) rfl (ι := {k : Nat // k ≤ (gone).length}) (fun k => [(0, lst (((gone.take k.1).foldl withoutR l).map resC)), (1, lst (adds.map resC)), (11, lst (gone.map keyC)), (12, int gone.length), (13, int k.1)]) (fun k => []) 64 (fun k => (gone).length - k.1) ⟨0, by omega⟩ [] (by constructor <;> simp) ?_
  rintro ⟨k, hk1⟩ B hB
  refine CW.run 9999 400 rfl ?_
  simp [Tryz.ntmps74, Tryz.results74]
  refine run_br_split (fun h => ?_) (fun h => ?_)
  · have hk : k < (gone).length := by simpa using h
    have hr : (gone)[k]? = some (gone)[k] := List.getElem?_eq_getElem hk
    have hm : (gone)[k] ∈ (gone) := List.getElem_mem hk
    have ht : (gone).take (k + 1) = (gone).take k ++ [(gone)[k]] := by rw [List.take_add_one, hr]; rfl
    have hd : (gone).drop k = (gone)[k] :: (gone).drop (k + 1) := List.drop_eq_getElem_cons hk
    have hw : IntKind.wrap .i64 ((k : Int) + 1) = k + 1 := wrap_i64 (by omega) (by omega)
    obtain ⟨x, hx⟩ : ∃ x0, (gone)[k] = x0 := ⟨_, rfl⟩
    rw [hx] at hr hm ht hd
    simp only [h]
    simp [hr, hw, Tryz.ntmps74, Tryz.results74]
    have h1 := fold_without_len (gone.take k) l
    refine CW.callP (without_p ((gone.take k).foldl withoutR l) x (by omega)) Tryz.call114 rfl rfl rfl (by first | exact .inl rfl | exact .inr ⟨_, _, rfl, by simp⟩ | exact .inr ⟨_, _, rfl, by simp [*]⟩) rfl (by simp) rfl rfl (CW.runOps 9999 400 rfl ?_)
    simp [Tryz.ntmps74, Tryz.results74]
    refine hB _ ⟨k + 1, by omega⟩ [] ?_ (by simp; omega)
    constructor <;> simp [hw, ht, List.foldl_append]
  · have hkl : k = (gone).length := by simp at h; omega
    subst hkl
    simp only [h]
    simp [List.take_length, List.drop_length, Tryz.ntmps74, Tryz.results74]
    have h1 := fold_without_len gone l
    refine LoopW.inv mixed (Plain.retC _ _ _ _ _) rfl (ι := {k : Nat // k ≤ (adds).length}) (fun k => [(0, lst (((adds.take k.1).foldl withR (gone.foldl withoutR l)).map resC)), (21, lst (adds.map resC)), (22, int adds.length), (23, int k.1)]) (fun k => []) 64 (fun k => (adds).length - k.1) ⟨0, by omega⟩ [] (by constructor <;> simp) ?_
    rintro ⟨k, hk1⟩ B hB
    refine CW.run 9999 400 rfl ?_
    simp [Tryz.ntmps74, Tryz.results74]
    refine run_br_split (fun h => ?_) (fun h => ?_)
    · have hk : k < (adds).length := by simpa using h
      have hr : (adds)[k]? = some (adds)[k] := List.getElem?_eq_getElem hk
      have hm : (adds)[k] ∈ (adds) := List.getElem_mem hk
      have ht : (adds).take (k + 1) = (adds).take k ++ [(adds)[k]] := by rw [List.take_add_one, hr]; rfl
      have hd : (adds).drop k = (adds)[k] :: (adds).drop (k + 1) := List.drop_eq_getElem_cons hk
      have hw : IntKind.wrap .i64 ((k : Int) + 1) = k + 1 := wrap_i64 (by omega) (by omega)
      obtain ⟨x, hx⟩ : ∃ x0, (adds)[k] = x0 := ⟨_, rfl⟩
      rw [hx] at hr hm ht hd
      simp only [h]
      simp [hr, hw, Tryz.ntmps74, Tryz.results74]
      have h2 := fold_with_len (adds.take k) (gone.foldl withoutR l)
      have h3 : (adds.take k).length ≤ adds.length := by simp; omega
      refine CW.callP (with_p ((adds.take k).foldl withR (gone.foldl withoutR l)) x (by omega)) Tryz.call48 rfl rfl rfl (by first | exact .inl rfl | exact .inr ⟨_, _, rfl, by simp⟩ | exact .inr ⟨_, _, rfl, by simp [*]⟩) rfl (by simp) rfl rfl (CW.runOps 9999 400 rfl ?_)
      simp [Tryz.ntmps74, Tryz.results74]
      refine hB _ ⟨k + 1, by omega⟩ [] ?_ (by simp; omega)
      constructor <;> simp [hw, ht, List.foldl_append]
    · have hkl : k = (adds).length := by simp at h; omega
      subst hkl
      simp only [h]
      simp [List.take_length, List.drop_length, Tryz.ntmps74, Tryz.results74]
      first | (exact fin0 (by simp [patchR]) rfl) | (refine ⟨by decide +kernel, ?_⟩; exact fin0 (by simp [patchR]) rfl)
end Go.Proofs.YtnmocaniljacpaaGreatDoor
end
