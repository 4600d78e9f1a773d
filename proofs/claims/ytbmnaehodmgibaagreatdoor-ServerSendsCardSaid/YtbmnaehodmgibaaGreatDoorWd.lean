/-
  LAYERS 5, 6, 9: the walks of configurations, of what is missing, of stores; what a store's arguments are.
-/
import Derived.Test.YtbmnaehodmgibaaGreatDoorPm
import Derived.Test.YtbmnaehodmgibaaGreatDoorWc
import Derived.Test.YtbmnaehodmgibaaGreatDoorWb
set_option linter.unusedSimpArgs false
set_option linter.unusedVariables false
section
namespace Go.Proofs.YtbmnaehodmgibaaGreatDoor
open Go.AI Go.G
set_option maxRecDepth 20000
theorem of_p6 (l : List Res) (hl : l.length ≤ 1000000) : Ct Tryz.prog 183 [lst (l.map resC)] [] [] (.d (.mp true [.int, .str] false (lookS (l.map Res.key)))) [] := by
  refine Ct.of_body Tryz.func183 rfl mixed (by rw [Tryz.ntmps183]; simp) (CW.run 9999 400 rfl ?_)
  simp [Tryz.ntmps183, Tryz.results183]
  refine LoopW.inv mixed (Plain.retC _ _ _ _ _) rfl (ι := {k : Nat // k ≤ (l).length}) (fun k => [(3, .own 64), (7, lst (l.map resC)), (8, int l.length), (9, int k.1)]) (fun k => [(64, .map true [.int, .str] false (lookS ((l.take k.1).map Res.key)))]) 65 (fun k => (l).length - k.1) ⟨0, by omega⟩ [] (by constructor <;> simp [lookS_nil]) ?_
  rintro ⟨k, hk1⟩ B hB
  refine CW.run 9999 400 rfl ?_
  simp [lookS_nil, Tryz.ntmps183, Tryz.results183]
  refine run_br_split (fun h => ?_) (fun h => ?_)
  · have hk : k < (l).length := by simpa using h
    have hr : (l)[k]? = some (l)[k] := List.getElem?_eq_getElem hk
    have hm : (l)[k] ∈ (l) := List.getElem_mem hk
    have ht : (l).take (k + 1) = (l).take k ++ [(l)[k]] := by rw [List.take_add_one, hr]; rfl
    have hd : (l).drop k = (l)[k] :: (l).drop (k + 1) := List.drop_eq_getElem_cons hk
    have hw : IntKind.wrap .i64 ((k : Int) + 1) = k + 1 := wrap_i64 (by omega) (by omega)
    obtain ⟨x, hx⟩ : ∃ x0, (l)[k] = x0 := ⟨_, rfl⟩
    rw [hx] at hr hm ht hd
    simp only [h]
    simp [hr, hw, Tryz.ntmps183, Tryz.results183]
    refine CW.callP (key_p x) Tryz.call97 rfl rfl rfl (by first | exact .inl rfl | exact .inr ⟨_, _, rfl, by simp⟩ | exact .inr ⟨_, _, rfl, by simp [*]⟩) rfl (by simp) rfl rfl (CW.runOps 9999 400 rfl ?_)
    simp [Tryz.ntmps183, Tryz.results183]
    refine hB _ ⟨k + 1, by omega⟩ [] ?_ (by simp; omega)
    constructor <;> simp [hw, ht]
  · have hkl : k = (l).length := by simp at h; omega
    subst hkl
    simp only [h]
    simp [List.take_length, List.drop_length, Tryz.ntmps183, Tryz.results183]
    first | (exact fin0 (by simp) rfl) | (refine ⟨by decide +kernel, ?_⟩; exact fin0 (by simp) rfl)
theorem missing_p (l : List Res) (hl : l.length ≤ 30000) : Ct Tryz.prog 220 [lst (l.map resC)] [] [] (lst ((missR l).map keyC)) [] := by
  refine Ct.of_body Tryz.func220 rfl mixed (by rw [Tryz.ntmps220]; simp) (CW.run 9999 400 rfl ?_)
  simp [Tryz.ntmps220, Tryz.results220]
  refine CW.callP (of_p6 l (by omega)) Tryz.call183 rfl rfl rfl (by first | exact .inl rfl | exact .inr ⟨_, _, rfl, by simp⟩ | exact .inr ⟨_, _, rfl, by simp [*]⟩) rfl (by simp) rfl rfl (CW.runOps 9999 400 rfl ?_)
  simp [Tryz.ntmps220, Tryz.results220]
  refine LoopW.nilOwn 4 2 89 rfl ?_
  refine LoopW.inv mixed (Plain.retC _ _ _ _ _) rfl (ι := {k : Nat // k ≤ (l).length}) (fun k => [(3, .d (.mp true [.int, .str] false (lookS (l.map Res.key)))), (4, .own 64), (11, lst (l.map resC)), (12, int l.length), (13, int k.1)]) (fun k => [(64, .grow 2 ((missP (l.take k.1) l).map keyC) 89)]) 65 (fun k => (l).length - k.1) ⟨0, by omega⟩ [] (by constructor <;> simp) ?_
  rintro ⟨k, hk1⟩ B hB
  refine CW.run 9999 400 rfl ?_
  simp [Tryz.ntmps220, Tryz.results220]
  refine run_br_split (fun h => ?_) (fun h => ?_)
  · have hk : k < (l).length := by simpa using h
    have hr : (l)[k]? = some (l)[k] := List.getElem?_eq_getElem hk
    have hm : (l)[k] ∈ (l) := List.getElem_mem hk
    have ht : (l).take (k + 1) = (l).take k ++ [(l)[k]] := by rw [List.take_add_one, hr]; rfl
    have hd : (l).drop k = (l)[k] :: (l).drop (k + 1) := List.drop_eq_getElem_cons hk
    have hw : IntKind.wrap .i64 ((k : Int) + 1) = k + 1 := wrap_i64 (by omega) (by omega)
    obtain ⟨x, hx⟩ : ∃ x0, (l)[k] = x0 := ⟨_, rfl⟩
    rw [hx] at hr hm ht hd
    simp only [h]
    simp [hr, hw, Tryz.ntmps220, Tryz.results220]
    have hml := missP_len (l.take k) l
    have hr33 := refs_le33 x
    have htk : (l.take k).length ≤ 30000 := by simp; omega
    refine CW.callP (refs_p x) Tryz.call96 rfl rfl rfl (by first | exact .inl rfl | exact .inr ⟨_, _, rfl, by simp⟩ | exact .inr ⟨_, _, rfl, by simp [*]⟩) rfl (by simp) rfl rfl (CW.runOps 9999 400 rfl ?_)
    simp [Tryz.ntmps220, Tryz.results220]
    refine LoopW.inv mixed (Plain.retC _ _ _ _ _) rfl (ι := {kj : Nat // kj ≤ ((refsK x)).length}) (fun kj => [(3, .d (.mp true [.int, .str] false (lookS (l.map Res.key)))), (4, .own 64), (11, lst (l.map resC)), (12, int l.length), (13, int k), (18, lst ((refsK x).map keyC)), (19, int (refsK x).length), (20, int kj.1)]) (fun kj => [(64, .grow 2 ((missP (l.take k) l ++ ((refsK x).take kj.1).filter (noR l)).map keyC) 89)]) 65 (fun kj => ((refsK x)).length - kj.1) ⟨0, by omega⟩ [] (by constructor <;> simp) ?_
    rintro ⟨kj, hk1j⟩ Bj hBj
    refine CW.run 9999 400 rfl ?_
    simp [Tryz.ntmps220, Tryz.results220]
    refine run_br_split (fun hj => ?_) (fun hj => ?_)
    · have hkj : kj < ((refsK x)).length := by simpa using hj
      have hrj : ((refsK x))[kj]? = some ((refsK x))[kj] := List.getElem?_eq_getElem hkj
      have hmj : ((refsK x))[kj] ∈ ((refsK x)) := List.getElem_mem hkj
      have htj : ((refsK x)).take (kj + 1) = ((refsK x)).take kj ++ [((refsK x))[kj]] := by rw [List.take_add_one, hrj]; rfl
      have hdj : ((refsK x)).drop kj = ((refsK x))[kj] :: ((refsK x)).drop (kj + 1) := List.drop_eq_getElem_cons hkj
      have hwj : IntKind.wrap .i64 ((kj : Int) + 1) = kj + 1 := wrap_i64 (by omega) (by omega)
      obtain ⟨q, hxj⟩ : ∃ x0, ((refsK x))[kj] = x0 := ⟨_, rfl⟩
      rw [hxj] at hrj hmj htj hdj
      simp only [hj]
      simp [hrj, hwj, Tryz.ntmps220, Tryz.results220]
      have hfl : (((refsK x).take kj).filter (noR l)).length ≤ 33 := Nat.le_trans (List.length_filter_le _ _) (by simp; omega)
      by_cases h1 : q ∈ l.map Res.key
      · have hL := look_in h1
        have h1' : noR l q = false := by simp [noR, mem_keys.1 h1]
        simp [hL, Tryz.ntmps220, Tryz.results220]
        refine hBj _ ⟨kj + 1, by omega⟩ [] ?_ (by simp; omega)
        constructor <;> simp [hwj, htj, List.filter_append, h1', hwj]
      · have hL := look_out h1
        have h1' : noR l q = true := by
          cases h : (getR l q).isSome
          · simp [noR, h]
          · exact absurd (mem_keys.2 h) h1
        simp [hL, hrj, Tryz.ntmps220, Tryz.results220]
        refine ⟨by omega, ?_⟩
        refine hBj _ ⟨kj + 1, by omega⟩ [] ?_ (by simp; omega)
        constructor <;> simp [hwj, htj, List.filter_append, h1', hwj]
    · have hklj : kj = ((refsK x)).length := by simp at hj; omega
      subst hklj
      simp only [hj]
      simp [List.take_length, List.drop_length, hw, Tryz.ntmps220, Tryz.results220]
      refine hB _ ⟨k + 1, by omega⟩ [] ?_ (by simp; omega)
      constructor <;> simp [hw, ht, missP_snoc]
  · have hkl : k = (l).length := by simp at h; omega
    subst hkl
    simp only [h]
    simp [List.take_length, List.drop_length, Tryz.ntmps220, Tryz.results220]
    have hml := missP_len l l
    refine CW.callC [64] (sort_p (missP l l) (by omega)) Tryz.call169 rfl rfl rfl (by first | exact .inl rfl | exact .inr ⟨_, _, rfl, by simp⟩ | exact .inr ⟨_, _, rfl, by simp [*]⟩) rfl (by simp) (by constructor <;> simp [nmOk]) (by simp) (CW.runOps 9999 400 rfl ?_)
    simp [Tryz.ntmps220, Tryz.results220]
    refine CW.callC [64] (compact_p (sortK (missP l l)) (by rw [sortK_length]; omega)) Tryz.call171 rfl rfl rfl (by first | exact .inl rfl | exact .inr ⟨_, _, rfl, by simp⟩ | exact .inr ⟨_, _, rfl, by simp [*]⟩) rfl (by simp) (by constructor <;> simp [nmOk]) (by simp) (CW.runOps 9999 400 rfl ?_)
    simp [Tryz.ntmps220, Tryz.results220]
    rw [missR_comp]
    first | (exact fin0 (by simp) rfl) | (refine ⟨by decide +kernel, ?_⟩; exact fin0 (by simp) rfl)
theorem kindP (r : Res) (n : Int) : Ct Tryz.prog 308 [st (resC r), .d (.pro [iD n])] [] [] (bool (decide (r.kind = n))) [] := by
  refine Ct.of_body Tryz.func308 rfl mixed (by rw [Tryz.ntmps308]; simp) (CW.run 9999 400 rfl ?_)
  simp [Tryz.ntmps308, Tryz.results308]
  first | (exact fin0 (by simp) rfl) | (refine ⟨by decide +kernel, ?_⟩; exact fin0 (by simp) rfl)
theorem kind_p (l : List Res) (n : Int) (hl : l.length ≤ 1000000) : Ct Tryz.prog 252 [lst (l.map resC), int n] [] [] (lst ((l.filter fun r => decide (r.kind = n)).map resC)) [] := by
  refine Ct.of_body Tryz.func252 rfl mixed (by rw [Tryz.ntmps252]; simp) (CW.run 1 400 rfl ?_)
  simp [Tryz.ntmps252, Tryz.results252]
  refine CW.sub (tm := [(0, lst (l.map resC)), (3, .d (.pro [iD n]))]) (m := []) (nx := 65) [] [64] rfl (by constructor <;> simp) ?_
  refine CW.run 9999 400 rfl ?_
  simp [Tryz.ntmps252, Tryz.results252]
  refine CW.callP (filter_p l (.fn (.func 308) [] [.pro [iD n]]) (fun r => decide (r.kind = n)) (fun r hr => FnOk.clo (by exact kindP r n) Tryz.call308 rfl rfl) hl) Tryz.call162 rfl rfl rfl (by first | exact .inl rfl | exact .inr ⟨_, _, rfl, by simp⟩ | exact .inr ⟨_, _, rfl, by simp [*]⟩) rfl (by simp) rfl rfl (CW.runOps 9999 400 rfl ?_)
  simp [Tryz.ntmps252, Tryz.results252]
  first | (exact fin0 (by simp) rfl) | (refine ⟨by decide +kernel, ?_⟩; exact fin0 (by simp) rfl)
end Go.Proofs.YtbmnaehodmgibaaGreatDoor
end
section
namespace Go.Proofs.YtbmnaehodmgibaaGreatDoor
open Go.AI Go.G
set_option maxRecDepth 20000
theorem tsane_p (l : List Res) : Ct Tryz.prog 219 [lst (l.map resC)] [] [] (int (tabE l)) [] := by
  refine Ct.of_body Tryz.func219 rfl mixed (by rw [Tryz.ntmps219]; simp) (CW.run 9999 400 rfl ?_)
  simp [Tryz.ntmps219, Tryz.results219]
  refine run_br_split (fun h0 => ?_) (fun h0 => ?_) <;> simp only [h0] <;> simp [Tryz.ntmps219, Tryz.results219] <;> (try simp only [Bool.not_eq_true', Bool.not_eq_false', decide_eq_true_eq, decide_eq_false_iff_not] at h0)
  · have e : tabE l = 3 := by simp only [tabE]; rw [if_pos (by omega)]
    first | (exact fin0 (by simp [e]) rfl) | (refine ⟨by decide +kernel, ?_⟩; exact fin0 (by simp [e]) rfl)
  have h64 : ¬ 64 < l.length := by omega
  have hl : l.length ≤ 64 := by omega
  refine LoopW.inv mixed (Plain.retC _ _ _ _ _) rfl (ι := {k : Nat // k ≤ (l).length ∧ (l.take k).all (fun r => decide (saneE r = 0)) = true}) (fun k => [(0, lst (l.map resC)), (13, lst (l.map resC)), (14, int l.length), (15, int k.1)]) (fun k => []) 64 (fun k => (l).length - k.1) ⟨0, by omega, by simp⟩ [] (by constructor <;> simp) ?_
  rintro ⟨k, hk1, hi⟩ B hB
  refine CW.run 9999 400 rfl ?_
  simp [Tryz.ntmps219, Tryz.results219]
  refine run_br_split (fun h => ?_) (fun h => ?_)
  · have hk : k < (l).length := by simpa using h
    have hr : (l)[k]? = some (l)[k] := List.getElem?_eq_getElem hk
    have hm : (l)[k] ∈ (l) := List.getElem_mem hk
    have ht : (l).take (k + 1) = (l).take k ++ [(l)[k]] := by rw [List.take_add_one, hr]; rfl
    have hd : (l).drop k = (l)[k] :: (l).drop (k + 1) := List.drop_eq_getElem_cons hk
    have hw : IntKind.wrap .i64 ((k : Int) + 1) = k + 1 := wrap_i64 (by omega) (by omega)
    obtain ⟨x, hx⟩ : ∃ x0, (l)[k] = x0 := ⟨_, rfl⟩
    rw [hx] at hr hm ht hd
    simp only [h]
    simp [hr, hw, Tryz.ntmps219, Tryz.results219]
    refine CW.callP (sane_p x) Tryz.call137 rfl rfl rfl (by first | exact .inl rfl | exact .inr ⟨_, _, rfl, by simp⟩ | exact .inr ⟨_, _, rfl, by simp [*]⟩) rfl (by simp) rfl rfl (CW.runOps 9999 400 rfl ?_)
    simp [Tryz.ntmps219, Tryz.results219]
    refine run_br_split (fun h1 => ?_) (fun h1 => ?_) <;> simp only [h1] <;> simp [Tryz.ntmps219, Tryz.results219] <;> (try simp only [Bool.not_eq_true', Bool.not_eq_false', decide_eq_true_eq, decide_eq_false_iff_not] at h1)
    · have e : tabE l = saneE x := by rw [← first_at hi hr h1]; exact tabE_sane h64 (by rw [first_at hi hr h1]; exact h1)
      first | (exact fin0 (by simp [e]) rfl) | (refine ⟨by decide +kernel, ?_⟩; exact fin0 (by simp [e]) rfl)
    · refine hB _ ⟨k + 1, by omega, by simp [ht, hi, h1]⟩ [] ?_ (by simp; omega)
      constructor <;> simp [hw, ht, h1]
  · have hkl : k = (l).length := by simp at h; omega
    subst hkl
    simp only [h]
    simp [List.take_length, List.drop_length, Tryz.ntmps219, Tryz.results219]
    rw [List.take_length] at hi
    have hf := first_none hi
    clear hi hB
    refine LoopW.inv mixed (Plain.retC _ _ _ _ _) rfl (ι := {k : Nat // k ≤ (l).length ∧ AscR (l.take k)}) (fun k => [(0, lst (l.map resC)), (25, lst (l.map resC)), (26, int l.length), (27, int k.1)]) (fun k => []) 64 (fun k => (l).length - k.1) ⟨0, by omega, by simp⟩ [] (by constructor <;> simp) ?_
    rintro ⟨k, hk1, hi⟩ B hB
    refine CW.run 9999 400 rfl ?_
    simp [Tryz.ntmps219, Tryz.results219]
    refine run_br_split (fun h => ?_) (fun h => ?_)
    · have hk : k < (l).length := by simpa using h
      have hr : (l)[k]? = some (l)[k] := List.getElem?_eq_getElem hk
      have hm : (l)[k] ∈ (l) := List.getElem_mem hk
      have ht : (l).take (k + 1) = (l).take k ++ [(l)[k]] := by rw [List.take_add_one, hr]; rfl
      have hd : (l).drop k = (l)[k] :: (l).drop (k + 1) := List.drop_eq_getElem_cons hk
      have hw : IntKind.wrap .i64 ((k : Int) + 1) = k + 1 := wrap_i64 (by omega) (by omega)
      obtain ⟨x, hx⟩ : ∃ x0, (l)[k] = x0 := ⟨_, rfl⟩
      rw [hx] at hr hm ht hd
      simp only [h]
      simp [hr, hw, Tryz.ntmps219, Tryz.results219]
      cases k with
      | zero =>
        simp [Tryz.ntmps219, Tryz.results219]
        refine ⟨by decide +kernel, ?_⟩
        refine hB _ ⟨0 + 1, by omega, by rw [ht]; simp [AscR, Asc]⟩ [] ?_ (by simp; omega)
        constructor <;> simp [hw]
      | succ m =>
        have hk' : m < l.length := by omega
        have hy : l[m]? = some l[m] := List.getElem?_eq_getElem hk'
        generalize l[m] = y at hy
        have w0 : IntKind.wrap .i64 (m : Int) = m := wrap_i64 (by omega) (by omega)
        have w1 : IntKind.wrap .i64 ((m : Int) + 1 + 1) = (m : Int) + 1 + 1 := wrap_i64 (by omega) (by omega)
        have c0 : (0 : Int) < (m : Int) + 1 := by omega
        have c1 : (0 : Int) ≤ (m : Int) + 1 := by omega
        have c2 : (m : Int) < l.length := by omega
        simp [c0, w0, c2, hy, Tryz.ntmps219, Tryz.results219]
        have c3 : (m : Int) + 1 < l.length := by omega
        refine CW.callP (key_p y) Tryz.call97 rfl rfl rfl (by first | exact .inl rfl | exact .inr ⟨_, _, rfl, by simp⟩ | exact .inr ⟨_, _, rfl, by simp [*]⟩) rfl (by simp [c1, c3, hr]) rfl rfl (CW.runOps 9999 400 rfl ?_)
        simp [c1, c3, hr, Tryz.ntmps219, Tryz.results219]
        refine CW.callP (key_p x) Tryz.call97 rfl rfl rfl (by first | exact .inl rfl | exact .inr ⟨_, _, rfl, by simp⟩ | exact .inr ⟨_, _, rfl, by simp [*]⟩) rfl (by simp) rfl rfl (CW.runOps 9999 400 rfl ?_)
        simp [Tryz.ntmps219, Tryz.results219]
        refine CW.callP (cmpK_p y.key x.key) Tryz.call170 rfl rfl rfl (by first | exact .inl rfl | exact .inr ⟨_, _, rfl, by simp⟩ | exact .inr ⟨_, _, rfl, by simp [*]⟩) rfl (by simp) rfl rfl (CW.runOps 9999 400 rfl ?_)
        simp [Tryz.ntmps219, Tryz.results219]
        refine ⟨by decide +kernel, ?_⟩
        refine run_br_split (fun h3 => ?_) (fun h3 => ?_) <;> simp only [h3] <;> simp [hr, hy, Tryz.ntmps219, Tryz.results219] <;> (try simp only [Bool.not_eq_true', Bool.not_eq_false', decide_eq_true_eq, decide_eq_false_iff_not] at h3)
        · have e : tabE l = 2 := tabE_asc' h64 hf (fun ha => by have := asc_no ha hy hr; omega)
          first | (exact fin0 (by simp [e]) rfl) | (refine ⟨by decide +kernel, ?_⟩; exact fin0 (by simp [e]) rfl)
        · have h4 : cmpK y.key x.key = -1 := by have := cmpK_range y.key x.key; omega
          refine hB _ ⟨m + 1 + 1, by omega, by rw [ht]; exact asc_snoc _ _ hi (fun z hz => by rw [last_take hy] at hz; cases hz; exact h4)⟩ [] ?_ (by simp; omega)
          constructor <;> simp [w1]
    · have hkl : k = (l).length := by simp at h; omega
      subst hkl
      simp only [h]
      simp [List.take_length, List.drop_length, Tryz.ntmps219, Tryz.results219]
      rw [List.take_length] at hi
      clear hB
      refine CW.callP (kind_p l 0 (by omega)) Tryz.call252 rfl rfl rfl (by first | exact .inl rfl | exact .inr ⟨_, _, rfl, by simp⟩ | exact .inr ⟨_, _, rfl, by simp [*]⟩) rfl (by simp) rfl rfl (CW.runOps 9999 400 rfl ?_)
      simp [Tryz.ntmps219, Tryz.results219]
      have hKl : (l.filter fun r => decide (r.kind = 0)).length ≤ 64 := Nat.le_trans (List.length_filter_le _ _) hl
      have hports : portsR l = (l.filter fun r => decide (r.kind = 0)).map Res.port := rfl
      generalize (l.filter fun r => decide (r.kind = 0)) = K at hKl hports
      refine LoopW.inv mixed (Plain.retC _ _ _ _ _) rfl (ι := {k : Nat // k ≤ (K).length ∧ ((K.take k).map Res.port).Nodup}) (fun k => [(7, .own 64), (50, lst (K.map resC)), (51, int K.length), (52, int k.1)]) (fun k => [(64, .map false [.int] false (lookP ((K.take k.1).map Res.port)))]) 65 (fun k => (K).length - k.1) ⟨0, by omega, by simp⟩ [] (by constructor <;> simp [lookP_nil]) ?_
      rintro ⟨k, hk1, hi⟩ B hB
      refine CW.run 9999 400 rfl ?_
      simp [lookP_nil, Tryz.ntmps219, Tryz.results219]
      refine run_br_split (fun h => ?_) (fun h => ?_)
      · have hk : k < (K).length := by simpa using h
        have hr : (K)[k]? = some (K)[k] := List.getElem?_eq_getElem hk
        have hm : (K)[k] ∈ (K) := List.getElem_mem hk
        have ht : (K).take (k + 1) = (K).take k ++ [(K)[k]] := by rw [List.take_add_one, hr]; rfl
        have hd : (K).drop k = (K)[k] :: (K).drop (k + 1) := List.drop_eq_getElem_cons hk
        have hw : IntKind.wrap .i64 ((k : Int) + 1) = k + 1 := wrap_i64 (by omega) (by omega)
        obtain ⟨x, hx⟩ : ∃ x0, (K)[k] = x0 := ⟨_, rfl⟩
        rw [hx] at hr hm ht hd
        simp only [h]
        simp [hr, hw, Tryz.ntmps219, Tryz.results219]
        by_cases hP : x.port ∈ (K.take k).map Res.port
        · have hL := port_in hP
          rw [List.map_take] at hL
          have e : tabE l = 13 := by
            rw [tabE_ports h64 hf ‹AscR l›, if_neg]
            rw [hports]
            intro hn
            have hs := hn.sublist ((List.take_sublist (k + 1) K).map Res.port)
            rw [ht, List.map_append, List.map_cons, List.map_nil, nodup_snoc] at hs
            exact hs.2 hP
          simp [hL, Tryz.ntmps219, Tryz.results219]
          first | (exact fin0 (by simp [e]) rfl) | (refine ⟨by decide +kernel, ?_⟩; exact fin0 (by simp [e]) rfl)
        · have hL := port_out hP
          rw [List.map_take] at hL
          simp [hL, Tryz.ntmps219, Tryz.results219]
          refine hB _ ⟨k + 1, by omega, by rw [ht, List.map_append, List.map_cons, List.map_nil, nodup_snoc]; exact ⟨hi, hP⟩⟩ [] ?_ (by simp; omega)
          constructor <;> simp [hw, ht]
      · have hkl : k = (K).length := by simp at h; omega
        subst hkl
        simp only [h]
        simp [List.take_length, List.drop_length, Tryz.ntmps219, Tryz.results219]
        rw [List.take_length] at hi
        have e : tabE l = 0 := by rw [tabE_ports h64 hf ‹AscR l›, hports, if_pos hi]
        first | (exact fin0 (by simp [e]) rfl) | (refine ⟨by decide +kernel, ?_⟩; exact fin0 (by simp [e]) rfl)
end Go.Proofs.YtbmnaehodmgibaaGreatDoor
end
section
namespace Go.Proofs.YtbmnaehodmgibaaGreatDoor
open Go.AI Go.G
set_option maxRecDepth 20000
end Go.Proofs.YtbmnaehodmgibaaGreatDoor
end
section
namespace Go.Proofs.YtbmnaehodmgibaaGreatDoor
open Go.AI Go.G
set_option maxRecDepth 20000
theorem bounded_p (n : Int) : Ct Tryz.prog 88 [int n] [] [] (int (capN n)) [] := by
  refine Ct.of_body Tryz.func88 rfl mixed (by rw [Tryz.ntmps88]; simp) (CW.run 9999 400 rfl ?_)
  simp [Tryz.ntmps88, Tryz.results88]
  have e := capN_min n
  first | (exact fin0 (by simp [e]) rfl) | (refine ⟨by decide +kernel, ?_⟩; exact fin0 (by simp [e]) rfl)
theorem newS_p (n : Int) : Ct Tryz.prog 48 [int n] [] [] (st (storeC (newS n))) [] := by
  refine Ct.of_body Tryz.func48 rfl mixed (by rw [Tryz.ntmps48]; simp) (CW.run 9999 400 rfl ?_)
  simp [Tryz.ntmps48, Tryz.results48]
  refine CW.callP (bounded_p n) Tryz.call88 rfl rfl rfl (by first | exact .inl rfl | exact .inr ⟨_, _, rfl, by simp⟩ | exact .inr ⟨_, _, rfl, by simp [*]⟩) rfl (by simp) rfl rfl (CW.runOps 9999 400 rfl ?_)
  simp [Tryz.ntmps48, Tryz.results48]
  first | (exact fin0 (by simp [newS]) rfl) | (refine ⟨by decide +kernel, ?_⟩; exact fin0 (by simp [newS]) rfl)
theorem taken_p (s : Store) : Ct Tryz.prog 92 [st (storeC s)] [] [] (st (storeC (takenS s))) [] := by
  refine Ct.of_body Tryz.func92 rfl mixed (by rw [Tryz.ntmps92]; simp) (CW.run 9999 400 rfl ?_)
  simp [Tryz.ntmps92, Tryz.results92]
  refine CW.callP (bounded_p s.cap) Tryz.call88 rfl rfl rfl (by first | exact .inl rfl | exact .inr ⟨_, _, rfl, by simp⟩ | exact .inr ⟨_, _, rfl, by simp [*]⟩) rfl (by simp) rfl rfl (CW.runOps 9999 400 rfl ?_)
  simp [Tryz.ntmps92, Tryz.results92]
  refine run_br_split (fun h1 => ?_) (fun h1 => ?_) <;> simp only [h1] <;> simp [Tryz.ntmps92, Tryz.results92] <;> (try simp only [Bool.not_eq_true', Bool.not_eq_false', decide_eq_true_eq, decide_eq_false_iff_not] at h1)
  · have h0 : s.hist = [] := by first | exact h1 | exact List.eq_nil_of_length_eq_zero (by omega)
    refine CW.callP (newS_p (capN s.cap)) Tryz.call48 rfl rfl rfl (by first | exact .inl rfl | exact .inr ⟨_, _, rfl, by simp⟩ | exact .inr ⟨_, _, rfl, by simp [*]⟩) rfl (by simp) rfl rfl (CW.runOps 9999 400 rfl ?_)
    simp [Tryz.ntmps92, Tryz.results92]
    rw [taken_nil h0]
    first | (exact fin0 (by simp [newS, capN_idem]) rfl) | (refine ⟨by decide +kernel, ?_⟩; exact fin0 (by simp [newS, capN_idem]) rfl)
  · have h0 : ¬ s.hist = [] := by first | exact h1 | exact fun e => h1 (by rw [e]; rfl)
    rw [taken_some h0]
    first | (exact fin0 (by simp) rfl) | (refine ⟨by decide +kernel, ?_⟩; exact fin0 (by simp) rfl)
theorem at_p (s : Store) (i : Int) : Ct Tryz.prog 41 [st (storeC s), int i] [] [] (atA s i) [] := by
  refine Ct.of_body Tryz.func41 rfl mixed (by rw [Tryz.ntmps41]; simp) (CW.run 9999 400 rfl ?_)
  simp [Tryz.ntmps41, Tryz.results41]
  refine CW.callP (taken_p s) Tryz.call92 rfl rfl rfl (by first | exact .inl rfl | exact .inr ⟨_, _, rfl, by simp⟩ | exact .inr ⟨_, _, rfl, by simp [*]⟩) rfl (by simp) rfl rfl (CW.runOps 9999 400 rfl ?_)
  simp [Tryz.ntmps41, Tryz.results41]
  refine run_gd_split (fun h1 => ?_) (fun h1 => ?_) <;> simp only [h1] <;> simp [Tryz.ntmps41, Tryz.results41] <;> (try simp only [Bool.not_eq_true', Bool.not_eq_false', decide_eq_true_eq, decide_eq_false_iff_not] at h1)
  · have e := at_neg (s := s) h1
    first | (exact fin0 (by simp [e]) rfl) | (refine ⟨by decide +kernel, ?_⟩; exact fin0 (by simp [e]) rfl)
  refine run_br_split (fun h2 => ?_) (fun h2 => ?_) <;> simp only [h2] <;> simp [Tryz.ntmps41, Tryz.results41] <;> (try simp only [Bool.not_eq_true', Bool.not_eq_false', decide_eq_true_eq, decide_eq_false_iff_not] at h2)
  · have e := at_big (s := s) (i := i) (by omega)
    first | (exact fin0 (by simp [e]) rfl) | (refine ⟨by decide +kernel, ?_⟩; exact fin0 (by simp [e]) rfl)
  · obtain ⟨l, ⟨hh, e3⟩, e1, e⟩ := at_get (s := s) h1 (by omega)
    have c1 : 0 ≤ i := by omega
    have c2 : i < (takenS s).hist.length := by omega
    simp [e1, c1, c2, e3, Tryz.ntmps41, Tryz.results41]
    first | (exact fin0 (by simp [e]) rfl) | (refine ⟨by decide +kernel, ?_⟩; exact fin0 (by simp [e]) rfl)
theorem find_p (s : Store) (k_ : Key) (v : Int) (hs : OkStore s) : Ct Tryz.prog 307 [st (storeC s), st (keyC k_), int v] [] [] (findA s k_ v) [] := by
  refine Ct.of_body Tryz.func307 rfl mixed (by rw [Tryz.ntmps307]; simp) (CW.run 9999 400 rfl ?_)
  simp [Tryz.ntmps307, Tryz.results307]
  refine CW.callP (at_p s v) Tryz.call41 rfl rfl rfl (by first | exact .inl rfl | exact .inr ⟨_, _, rfl, by simp⟩ | exact .inr ⟨_, _, rfl, by simp [*]⟩) rfl (by simp) rfl rfl (CW.runOps 9999 400 rfl ?_)
  simp [Tryz.ntmps307, Tryz.results307]
  refine CW.callP (get_p ((atS s v).getD []) k_ (ok_at hs v).len) Tryz.call35 rfl rfl rfl (by first | exact .inl rfl | exact .inr ⟨_, _, rfl, by simp⟩ | exact .inr ⟨_, _, rfl, by simp [*]⟩) rfl (by simp) rfl rfl (CW.runOps 9999 400 rfl ?_)
  simp [Tryz.ntmps307, Tryz.results307]
  cases hg : getR ((atS s v).getD []) k_ with
  | none =>
    have e := findS_none hg
    simp [Tryz.ntmps307, Tryz.results307]
    first | (exact fin0 (by simp [e, zRes]) rfl) | (refine ⟨by decide +kernel, ?_⟩; exact fin0 (by simp [e, zRes]) rfl)
  | some r =>
    have e := findS_some hg
    simp [Tryz.ntmps307, Tryz.results307]
    refine run_br_split (fun h1 => ?_) (fun h1 => ?_) <;> simp only [h1] <;> simp [Tryz.ntmps307, Tryz.results307] <;> (try simp only [Bool.not_eq_true', Bool.not_eq_false', decide_eq_true_eq, decide_eq_false_iff_not] at h1)
    · rw [if_pos h1] at e
      first | (exact fin0 (by simp [e]) rfl) | (refine ⟨by decide +kernel, ?_⟩; exact fin0 (by simp [e]) rfl)
    · rw [if_neg h1] at e
      first | (exact fin0 (by simp [e, zRes]) rfl) | (refine ⟨by decide +kernel, ?_⟩; exact fin0 (by simp [e, zRes]) rfl)
theorem find1 (s : Store) (m : G.Mark) (hs : OkStore s) : Ct Tryz.prog 306 [st (markC m), .d (.pro (storeC s))] [] [] (st (resC (ofM s m))) [] := by
  refine Ct.of_body Tryz.func306 rfl mixed (by rw [Tryz.ntmps306]; simp) (CW.run 9999 400 rfl ?_)
  simp [Tryz.ntmps306, Tryz.results306]
  refine CW.callP (find_p s m.k m.ver hs) Tryz.call307 rfl rfl rfl (by first | exact .inl rfl | exact .inr ⟨_, _, rfl, by simp⟩ | exact .inr ⟨_, _, rfl, by simp [*]⟩) rfl (by simp) rfl rfl (CW.runOps 9999 400 rfl ?_)
  simp [Tryz.ntmps306, Tryz.results306]
  cases hg : findS s m.k m.ver with
  | none =>
    have e : ofM s m = bareR m := by simp [ofM, hg]
    simp [Tryz.ntmps306, Tryz.results306]
    first | (exact fin0 (by simp [e, bareR]) rfl) | (refine ⟨by decide +kernel, ?_⟩; exact fin0 (by simp [e, bareR]) rfl)
  | some r =>
    have e : ofM s m = r := by simp [ofM, hg]
    simp [Tryz.ntmps306, Tryz.results306]
    first | (exact fin0 (by simp [e]) rfl) | (refine ⟨by decide +kernel, ?_⟩; exact fin0 (by simp [e]) rfl)
theorem finder_p (s : Store) : Ct Tryz.prog 250 [st (storeC s)] [] [] (.d (.fn (.func 306) [] [.pro (storeC s)])) [] := by
  refine Ct.of_body Tryz.func250 rfl mixed (by rw [Tryz.ntmps250]; simp) (CW.run 9999 400 rfl ?_)
  simp [Tryz.ntmps250, Tryz.results250]
  first | (exact fin0 (by simp) rfl) | (refine ⟨by decide +kernel, ?_⟩; exact fin0 (by simp) rfl)
theorem known_p (s : Store) (l : List G.Mark) (hs : OkStore s) (hl : l.length ≤ 1000) : Ct Tryz.prog 187 [st (storeC s), lst (l.map markC)] [] [] (lst ((knownV s l).map resC)) [] := by
  refine Ct.of_body Tryz.func187 rfl mixed (by rw [Tryz.ntmps187]; simp) (CW.run 9999 400 rfl ?_)
  simp [Tryz.ntmps187, Tryz.results187]
  refine CW.callP (finder_p s) Tryz.call250 rfl rfl rfl (by first | exact .inl rfl | exact .inr ⟨_, _, rfl, by simp⟩ | exact .inr ⟨_, _, rfl, by simp [*]⟩) rfl (by simp) rfl rfl (CW.runOps 9999 400 rfl ?_)
  simp [Tryz.ntmps187, Tryz.results187]
  refine LoopW.inv mixed (Plain.retC _ _ _ _ _) rfl (ι := {k : Nat // k ≤ (l).length}) (fun k => [(5, .d (.fn (.func 306) [] [.pro (storeC s)])), (6, lst ((knownV s (l.take k.1)).map resC)), (11, lst (l.map markC)), (12, int l.length), (13, int k.1)]) (fun k => []) 64 (fun k => (l).length - k.1) ⟨0, by omega⟩ [] (by constructor <;> simp [known_nil]) ?_
  rintro ⟨k, hk1⟩ B hB
  refine CW.run 9999 400 rfl ?_
  simp [known_nil, Tryz.ntmps187, Tryz.results187]
  refine run_br_split (fun h => ?_) (fun h => ?_)
  · have hk : k < (l).length := by simpa using h
    have hr : (l)[k]? = some (l)[k] := List.getElem?_eq_getElem hk
    have hm : (l)[k] ∈ (l) := List.getElem_mem hk
    have ht : (l).take (k + 1) = (l).take k ++ [(l)[k]] := by rw [List.take_add_one, hr]; rfl
    have hd : (l).drop k = (l)[k] :: (l).drop (k + 1) := List.drop_eq_getElem_cons hk
    have hw : IntKind.wrap .i64 ((k : Int) + 1) = k + 1 := wrap_i64 (by omega) (by omega)
    obtain ⟨x, hx⟩ : ∃ x0, (l)[k] = x0 := ⟨_, rfl⟩
    rw [hx] at hr hm ht hd
    simp only [h]
    simp [hr, hw, Tryz.ntmps187, Tryz.results187]
    have hlen := known_len s (l.take k)
    have htk : (l.take k).length ≤ 1000 := by simp; omega
    refine CW.callF (FnOk.clo (args := [st (markC x)]) (by exact find1 s x hs) Tryz.call306 rfl rfl) rfl rfl rfl (by first | exact .inl rfl | exact .inr ⟨_, _, rfl, by simp⟩ | exact .inr ⟨_, _, rfl, by simp [*]⟩) rfl (by simp) (CW.runOps 9999 400 rfl ?_)
    simp [Tryz.ntmps187, Tryz.results187]
    refine CW.callP (with_p (knownV s (l.take k)) (ofM s x) (by omega)) Tryz.call218 rfl rfl rfl (by first | exact .inl rfl | exact .inr ⟨_, _, rfl, by simp⟩ | exact .inr ⟨_, _, rfl, by simp [*]⟩) rfl (by simp) rfl rfl (CW.runOps 9999 400 rfl ?_)
    simp [Tryz.ntmps187, Tryz.results187]
    refine hB _ ⟨k + 1, by omega⟩ [] ?_ (by simp; omega)
    constructor <;> simp [hw, ht, known_snoc]
  · have hkl : k = (l).length := by simp at h; omega
    subst hkl
    simp only [h]
    simp [List.take_length, List.drop_length, Tryz.ntmps187, Tryz.results187]
    first | (exact fin0 (by simp) rfl) | (refine ⟨by decide +kernel, ?_⟩; exact fin0 (by simp) rfl)
end Go.Proofs.YtbmnaehodmgibaaGreatDoor
end
section
namespace Go.Proofs.YtbmnaehodmgibaaGreatDoor
open Go.AI Go.G
set_option maxRecDepth 20000
end Go.Proofs.YtbmnaehodmgibaaGreatDoor
end
section
namespace Go.Proofs.YtbmnaehodmgibaaGreatDoor
open Go.ChangeShapes Go.WideShapes Go.ChangeAt Go.RowKit
open Go.AI Go.G
set_option maxRecDepth 20000
theorem sh_hist : shT Tryz.prog 36 = .sl 26 := by kernel_rfl
theorem sh_store : shT Tryz.prog 38 = .st [3, 36] := by kernel_rfl
variable {n : Nat} {ds : List D}
theorem is_hist (h : Is Tryz.prog (n + 8) 36 ds) : ∃ l : List (List Res), (l.length ≤ 9223372036854775807 ∧ ∀ x ∈ l, OkRs x) ∧ ds = [lD (l.map rsC)] := by
  obtain ⟨es, he, h1, rfl⟩ := is_sl sh_hist h
  obtain ⟨l, hl, rfl⟩ := is_list (fun c => is_ress) h1
  exact ⟨l, ⟨is_len he, hl⟩, rfl⟩
theorem is_store (h : Is Tryz.prog (n + 9) 38 ds) : ∃ s : Store, OkStore s ∧ ds = storeC s := by
  obtain ⟨_, _, h1, g1, rfl⟩ := isF_cons (is_st sh_store h)
  obtain ⟨_, _, h2, g2, rfl⟩ := isF_cons g1
  obtain rfl := isF_nil g2
  obtain ⟨a, _, rfl⟩ := is_int sh_int h1
  obtain ⟨l, ⟨h3, h4⟩, rfl⟩ := is_hist h2
  exact ⟨⟨a, l⟩, ⟨h3, h4⟩, rfl⟩
theorem ag_store : aggT Tryz.prog 38 = true := by kernel_rfl
end Go.Proofs.YtbmnaehodmgibaaGreatDoor
end
