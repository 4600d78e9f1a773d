/-
  LAYERS 6 to 14: the walks of the program's tables and policies, and of ViewFree and ViewKnows.
-/
import Derived.Test.YtnccdcgpabaopaaGreatDoorPm
import Derived.Test.YtnccdcgpabaopaaGreatDoorWc
import Derived.Test.YtnccdcgpabaopaaGreatDoorWb
import Derived.Test.YtnccdcgpabaopaaGreatDoorVi
set_option linter.unusedSimpArgs false
set_option linter.unusedVariables false
section
namespace Go.Proofs.YtnccdcgpabaopaaGreatDoor
open Go.AI Go.G
set_option maxRecDepth 20000

-- groyne/refs.of
theorem of_p6 (l : List Res) (hl : l.length ≤ 1000000) : Ct Tryz.prog 67 [lst (l.map resC)] [] [] (.d (.mp true [.int, .str] false (lookS (l.map Res.key)))) [] := by
  refine Ct.of_body Tryz.func67 rfl mixed (by rw [Tryz.ntmps67]; simp) (CW.run 9999 400 rfl ?_)
  simp [Tryz.ntmps67, Tryz.results67]
  refine LoopW.inv mixed (Plain.retC _ _ _ _ _) rfl (ι := {k : Nat // k ≤ (l).length}) (fun k => [(3, .own 64), (7, lst (l.map resC)), (8, int l.length), (9, int k.1)]) (fun k => [(64, .map true [.int, .str] false (lookS ((l.take k.1).map Res.key)))]) 65 (fun k => (l).length - k.1) ⟨0, by omega⟩ [] (by constructor <;> simp [lookS_nil]) ?_
  rintro ⟨k, hk1⟩ B hB
  refine CW.run 9999 400 rfl ?_
  simp [lookS_nil, Tryz.ntmps67, Tryz.results67]
  refine run_br_split (fun h => ?_) (fun h => ?_)
  · have hk : k < (l).length := by simpa using h
    have hr : (l)[k]? = some (l)[k] := List.getElem?_eq_getElem hk
    have hm : (l)[k] ∈ (l) := List.getElem_mem hk
    have ht : (l).take (k + 1) = (l).take k ++ [(l)[k]] := by rw [List.take_add_one, hr]; rfl
    have hd : (l).drop k = (l)[k] :: (l).drop (k + 1) := List.drop_eq_getElem_cons hk
    have hw : IntKind.wrap .i64 ((k : Int) + 1) = k + 1 := wrap_i64 (by omega) (by omega)
    obtain ⟨x, hx⟩ : ∃ x0, (l)[k] = x0 := ⟨_, rfl⟩
    rw [hx] at hr hm ht hd
    simp only [h]
    simp [hr, hw, Tryz.ntmps67, Tryz.results67]
    refine CW.callP (key_p x) Tryz.call29 rfl rfl rfl (by first | exact .inl rfl | exact .inr ⟨_, _, rfl, by simp⟩ | exact .inr ⟨_, _, rfl, by simp [*]⟩) rfl (by simp) rfl rfl (CW.runOps 9999 400 rfl ?_)
    simp [Tryz.ntmps67, Tryz.results67]
    refine hB _ ⟨k + 1, by omega⟩ [] ?_ (by simp; omega)
    constructor <;> simp [hw, ht]
  · have hkl : k = (l).length := by simp at h; omega
    subst hkl
    simp only [h]
    simp [List.take_length, List.drop_length, Tryz.ntmps67, Tryz.results67]
    first | (exact fin0 (by simp) rfl) | (refine ⟨by decide +kernel, ?_⟩; exact fin0 (by simp) rfl)

-- groyne/refs.Missing
theorem missing_p (l : List Res) (hl : l.length ≤ 30000) : Ct Tryz.prog 40 [lst (l.map resC)] [] [] (lst ((missR l).map keyC)) [] := by
  refine Ct.of_body Tryz.func40 rfl mixed (by rw [Tryz.ntmps40]; simp) (CW.run 9999 400 rfl ?_)
  simp [Tryz.ntmps40, Tryz.results40]
  refine CW.callP (of_p6 l (by omega)) Tryz.call67 rfl rfl rfl (by first | exact .inl rfl | exact .inr ⟨_, _, rfl, by simp⟩ | exact .inr ⟨_, _, rfl, by simp [*]⟩) rfl (by simp) rfl rfl (CW.runOps 9999 400 rfl ?_)
  simp [Tryz.ntmps40, Tryz.results40]
  refine LoopW.nilOwn 4 2 31 rfl ?_
  refine LoopW.inv mixed (Plain.retC _ _ _ _ _) rfl (ι := {k : Nat // k ≤ (l).length}) (fun k => [(3, .d (.mp true [.int, .str] false (lookS (l.map Res.key)))), (4, .own 64), (11, lst (l.map resC)), (12, int l.length), (13, int k.1)]) (fun k => [(64, .grow 2 ((missP (l.take k.1) l).map keyC) 31)]) 65 (fun k => (l).length - k.1) ⟨0, by omega⟩ [] (by constructor <;> simp) ?_
  rintro ⟨k, hk1⟩ B hB
  refine CW.run 9999 400 rfl ?_
  simp [Tryz.ntmps40, Tryz.results40]
  refine run_br_split (fun h => ?_) (fun h => ?_)
  · have hk : k < (l).length := by simpa using h
    have hr : (l)[k]? = some (l)[k] := List.getElem?_eq_getElem hk
    have hm : (l)[k] ∈ (l) := List.getElem_mem hk
    have ht : (l).take (k + 1) = (l).take k ++ [(l)[k]] := by rw [List.take_add_one, hr]; rfl
    have hd : (l).drop k = (l)[k] :: (l).drop (k + 1) := List.drop_eq_getElem_cons hk
    have hw : IntKind.wrap .i64 ((k : Int) + 1) = k + 1 := wrap_i64 (by omega) (by omega)
    obtain ⟨x, hx⟩ : ∃ x0, (l)[k] = x0 := ⟨_, rfl⟩
    rw [hx] at hr hm ht hd
    simp only [h]
    simp [hr, hw, Tryz.ntmps40, Tryz.results40]
    have hml := missP_len (l.take k) l
    have hr33 := refs_le33 x
    have htk : (l.take k).length ≤ 30000 := by simp; omega
    refine CW.callP (refs_p x) Tryz.call68 rfl rfl rfl (by first | exact .inl rfl | exact .inr ⟨_, _, rfl, by simp⟩ | exact .inr ⟨_, _, rfl, by simp [*]⟩) rfl (by simp) rfl rfl (CW.runOps 9999 400 rfl ?_)
    simp [Tryz.ntmps40, Tryz.results40]
    refine LoopW.inv mixed (Plain.retC _ _ _ _ _) rfl (ι := {kj : Nat // kj ≤ ((refsK x)).length}) (fun kj => [(3, .d (.mp true [.int, .str] false (lookS (l.map Res.key)))), (4, .own 64), (11, lst (l.map resC)), (12, int l.length), (13, int k), (18, lst ((refsK x).map keyC)), (19, int (refsK x).length), (20, int kj.1)]) (fun kj => [(64, .grow 2 ((missP (l.take k) l ++ ((refsK x).take kj.1).filter (noR l)).map keyC) 31)]) 65 (fun kj => ((refsK x)).length - kj.1) ⟨0, by omega⟩ [] (by constructor <;> simp) ?_
    rintro ⟨kj, hk1j⟩ Bj hBj
    refine CW.run 9999 400 rfl ?_
    simp [Tryz.ntmps40, Tryz.results40]
    refine run_br_split (fun hj => ?_) (fun hj => ?_)
    · have hkj : kj < ((refsK x)).length := by simpa using hj
      have hrj : ((refsK x))[kj]? = some ((refsK x))[kj] := List.getElem?_eq_getElem hkj
      have hmj : ((refsK x))[kj] ∈ ((refsK x)) := List.getElem_mem hkj
      have htj : ((refsK x)).take (kj + 1) = ((refsK x)).take kj ++ [((refsK x))[kj]] := by rw [List.take_add_one, hrj]; rfl
      have hdj : ((refsK x)).drop kj = ((refsK x))[kj] :: ((refsK x)).drop (kj + 1) := List.drop_eq_getElem_cons hkj
      have hwj : IntKind.wrap .i64 ((kj : Int) + 1) = kj + 1 := wrap_i64 (by omega) (by omega)
      obtain ⟨q, hxj⟩ : ∃ x0, ((refsK x))[kj] = x0 := ⟨_, rfl⟩
      rw [hxj] at hrj hmj htj hdj
      simp only [hj]
      simp [hrj, hwj, Tryz.ntmps40, Tryz.results40]
      have hfl : (((refsK x).take kj).filter (noR l)).length ≤ 33 := Nat.le_trans (List.length_filter_le _ _) (by simp; omega)
      by_cases h1 : q ∈ l.map Res.key
      · have hL := look_in h1
        have h1' : noR l q = false := by simp [noR, mem_keys.1 h1]
        simp [hL, Tryz.ntmps40, Tryz.results40]
        refine hBj _ ⟨kj + 1, by omega⟩ [] ?_ (by simp; omega)
        constructor <;> simp [hwj, htj, List.filter_append, h1', hwj]
      · have hL := look_out h1
        have h1' : noR l q = true := by
          cases h : (getR l q).isSome
          · simp [noR, h]
          · exact absurd (mem_keys.2 h) h1
        simp [hL, hrj, Tryz.ntmps40, Tryz.results40]
        refine ⟨by omega, ?_⟩
        refine hBj _ ⟨kj + 1, by omega⟩ [] ?_ (by simp; omega)
        constructor <;> simp [hwj, htj, List.filter_append, h1', hwj]
    · have hklj : kj = ((refsK x)).length := by simp at hj; omega
      subst hklj
      simp only [hj]
      simp [List.take_length, List.drop_length, hw, Tryz.ntmps40, Tryz.results40]
      refine hB _ ⟨k + 1, by omega⟩ [] ?_ (by simp; omega)
      constructor <;> simp [hw, ht, missP_snoc]
  · have hkl : k = (l).length := by simp at h; omega
    subst hkl
    simp only [h]
    simp [List.take_length, List.drop_length, Tryz.ntmps40, Tryz.results40]
    have hml := missP_len l l
    refine CW.callC [64] (sort_p (missP l l) (by omega)) Tryz.call69 rfl rfl rfl (by first | exact .inl rfl | exact .inr ⟨_, _, rfl, by simp⟩ | exact .inr ⟨_, _, rfl, by simp [*]⟩) rfl (by simp) (by constructor <;> simp [nmOk]) (by simp) (CW.runOps 9999 400 rfl ?_)
    simp [Tryz.ntmps40, Tryz.results40]
    refine CW.callC [64] (compact_p (sortK (missP l l)) (by rw [sortK_length]; omega)) Tryz.call70 rfl rfl rfl (by first | exact .inl rfl | exact .inr ⟨_, _, rfl, by simp⟩ | exact .inr ⟨_, _, rfl, by simp [*]⟩) rfl (by simp) (by constructor <;> simp [nmOk]) (by simp) (CW.runOps 9999 400 rfl ?_)
    simp [Tryz.ntmps40, Tryz.results40]
    rw [missR_comp]
    first | (exact fin0 (by simp) rfl) | (refine ⟨by decide +kernel, ?_⟩; exact fin0 (by simp) rfl)

-- groyne/table.Kind$1
theorem kindP (r : Res) (n : Int) : Ct Tryz.prog 103 [st (resC r), .d (.pro [iD n])] [] [] (bool (decide (r.kind = n))) [] := by
  refine Ct.of_body Tryz.func103 rfl mixed (by rw [Tryz.ntmps103]; simp) (CW.run 9999 400 rfl ?_)
  simp [Tryz.ntmps103, Tryz.results103]
  first | (exact fin0 (by simp) rfl) | (refine ⟨by decide +kernel, ?_⟩; exact fin0 (by simp) rfl)

-- groyne/table.Kind
theorem kind_p (l : List Res) (n : Int) (hl : l.length ≤ 1000000) : Ct Tryz.prog 66 [lst (l.map resC), int n] [] [] (lst ((l.filter fun r => decide (r.kind = n)).map resC)) [] := by
  refine Ct.of_body Tryz.func66 rfl mixed (by rw [Tryz.ntmps66]; simp) (CW.run 1 400 rfl ?_)
  simp [Tryz.ntmps66, Tryz.results66]
  refine CW.sub (tm := [(0, lst (l.map resC)), (3, .d (.pro [iD n]))]) (m := []) (nx := 65) [] [64] rfl (by constructor <;> simp) ?_
  refine CW.run 9999 400 rfl ?_
  simp [Tryz.ntmps66, Tryz.results66]
  refine CW.callP (filter_p l (.fn (.func 103) [] [.pro [iD n]]) (fun r => decide (r.kind = n)) (fun r hr => FnOk.clo (by exact kindP r n) Tryz.call103 rfl rfl) hl) Tryz.call86 rfl rfl rfl (by first | exact .inl rfl | exact .inr ⟨_, _, rfl, by simp⟩ | exact .inr ⟨_, _, rfl, by simp [*]⟩) rfl (by simp) rfl rfl (CW.runOps 9999 400 rfl ?_)
  simp [Tryz.ntmps66, Tryz.results66]
  first | (exact fin0 (by simp) rfl) | (refine ⟨by decide +kernel, ?_⟩; exact fin0 (by simp) rfl)

end Go.Proofs.YtnccdcgpabaopaaGreatDoor
end
section
namespace Go.Proofs.YtnccdcgpabaopaaGreatDoor
open Go.AI Go.G
set_option maxRecDepth 20000

-- groyne/table.Sane
theorem tsane_p (l : List Res) : Ct Tryz.prog 39 [lst (l.map resC)] [] [] (int (tabE l)) [] := by
  refine Ct.of_body Tryz.func39 rfl mixed (by rw [Tryz.ntmps39]; simp) (CW.run 9999 400 rfl ?_)
  simp [Tryz.ntmps39, Tryz.results39]
  refine run_br_split (fun h0 => ?_) (fun h0 => ?_) <;> simp only [h0] <;> simp [Tryz.ntmps39, Tryz.results39] <;> (try simp only [Bool.not_eq_true', Bool.not_eq_false', decide_eq_true_eq, decide_eq_false_iff_not] at h0)
  · have e : tabE l = 3 := by simp only [tabE]; rw [if_pos (by omega)]
    first | (exact fin0 (by simp [e]) rfl) | (refine ⟨by decide +kernel, ?_⟩; exact fin0 (by simp [e]) rfl)
  have h64 : ¬ 64 < l.length := by omega
  have hl : l.length ≤ 64 := by omega
  refine LoopW.inv mixed (Plain.retC _ _ _ _ _) rfl (ι := {k : Nat // k ≤ (l).length ∧ (l.take k).all (fun r => decide (saneE r = 0)) = true}) (fun k => [(0, lst (l.map resC)), (13, lst (l.map resC)), (14, int l.length), (15, int k.1)]) (fun k => []) 64 (fun k => (l).length - k.1) ⟨0, by omega, by simp⟩ [] (by constructor <;> simp) ?_
  rintro ⟨k, hk1, hi⟩ B hB
  refine CW.run 9999 400 rfl ?_
  simp [Tryz.ntmps39, Tryz.results39]
  refine run_br_split (fun h => ?_) (fun h => ?_)
  · have hk : k < (l).length := by simpa using h
    have hr : (l)[k]? = some (l)[k] := List.getElem?_eq_getElem hk
    have hm : (l)[k] ∈ (l) := List.getElem_mem hk
    have ht : (l).take (k + 1) = (l).take k ++ [(l)[k]] := by rw [List.take_add_one, hr]; rfl
    have hd : (l).drop k = (l)[k] :: (l).drop (k + 1) := List.drop_eq_getElem_cons hk
    have hw : IntKind.wrap .i64 ((k : Int) + 1) = k + 1 := wrap_i64 (by omega) (by omega)
    obtain ⟨x, hx⟩ : ∃ x0, (l)[k] = x0 := ⟨_, rfl⟩
    rw [hx] at hr hm ht hd
    simp only [h]
    simp [hr, hw, Tryz.ntmps39, Tryz.results39]
    refine CW.callP (sane_p x) Tryz.call64 rfl rfl rfl (by first | exact .inl rfl | exact .inr ⟨_, _, rfl, by simp⟩ | exact .inr ⟨_, _, rfl, by simp [*]⟩) rfl (by simp) rfl rfl (CW.runOps 9999 400 rfl ?_)
    simp [Tryz.ntmps39, Tryz.results39]
    refine run_br_split (fun h1 => ?_) (fun h1 => ?_) <;> simp only [h1] <;> simp [Tryz.ntmps39, Tryz.results39] <;> (try simp only [Bool.not_eq_true', Bool.not_eq_false', decide_eq_true_eq, decide_eq_false_iff_not] at h1)
    · have e : tabE l = saneE x := by rw [← first_at hi hr h1]; exact tabE_sane h64 (by rw [first_at hi hr h1]; exact h1)
      first | (exact fin0 (by simp [e]) rfl) | (refine ⟨by decide +kernel, ?_⟩; exact fin0 (by simp [e]) rfl)
    · refine hB _ ⟨k + 1, by omega, by simp [ht, hi, h1]⟩ [] ?_ (by simp; omega)
      constructor <;> simp [hw, ht, h1]
  · have hkl : k = (l).length := by simp at h; omega
    subst hkl
    simp only [h]
    simp [List.take_length, List.drop_length, Tryz.ntmps39, Tryz.results39]
    rw [List.take_length] at hi
    have hf := first_none hi
    clear hi hB
    refine LoopW.inv mixed (Plain.retC _ _ _ _ _) rfl (ι := {k : Nat // k ≤ (l).length ∧ AscR (l.take k)}) (fun k => [(0, lst (l.map resC)), (25, lst (l.map resC)), (26, int l.length), (27, int k.1)]) (fun k => []) 64 (fun k => (l).length - k.1) ⟨0, by omega, by simp⟩ [] (by constructor <;> simp) ?_
    rintro ⟨k, hk1, hi⟩ B hB
    refine CW.run 9999 400 rfl ?_
    simp [Tryz.ntmps39, Tryz.results39]
    refine run_br_split (fun h => ?_) (fun h => ?_)
    · have hk : k < (l).length := by simpa using h
      have hr : (l)[k]? = some (l)[k] := List.getElem?_eq_getElem hk
      have hm : (l)[k] ∈ (l) := List.getElem_mem hk
      have ht : (l).take (k + 1) = (l).take k ++ [(l)[k]] := by rw [List.take_add_one, hr]; rfl
      have hd : (l).drop k = (l)[k] :: (l).drop (k + 1) := List.drop_eq_getElem_cons hk
      have hw : IntKind.wrap .i64 ((k : Int) + 1) = k + 1 := wrap_i64 (by omega) (by omega)
      obtain ⟨x, hx⟩ : ∃ x0, (l)[k] = x0 := ⟨_, rfl⟩
      rw [hx] at hr hm ht hd
      simp only [h]
      simp [hr, hw, Tryz.ntmps39, Tryz.results39]
      cases k with
      | zero =>
        simp [Tryz.ntmps39, Tryz.results39]
        refine ⟨by decide +kernel, ?_⟩
        refine hB _ ⟨0 + 1, by omega, by rw [ht]; simp [AscR, Asc]⟩ [] ?_ (by simp; omega)
        constructor <;> simp [hw]
      | succ m =>
        have hk' : m < l.length := by omega
        have hy : l[m]? = some l[m] := List.getElem?_eq_getElem hk'
        generalize l[m] = y at hy
        have w0 : IntKind.wrap .i64 (m : Int) = m := wrap_i64 (by omega) (by omega)
        have w1 : IntKind.wrap .i64 ((m : Int) + 1 + 1) = (m : Int) + 1 + 1 := wrap_i64 (by omega) (by omega)
        have c0 : (0 : Int) < (m : Int) + 1 := by omega
        have c1 : (0 : Int) ≤ (m : Int) + 1 := by omega
        have c2 : (m : Int) < l.length := by omega
        simp [c0, w0, c2, hy, Tryz.ntmps39, Tryz.results39]
        have c3 : (m : Int) + 1 < l.length := by omega
        refine CW.callP (key_p y) Tryz.call29 rfl rfl rfl (by first | exact .inl rfl | exact .inr ⟨_, _, rfl, by simp⟩ | exact .inr ⟨_, _, rfl, by simp [*]⟩) rfl (by simp [c1, c3, hr]) rfl rfl (CW.runOps 9999 400 rfl ?_)
        simp [c1, c3, hr, Tryz.ntmps39, Tryz.results39]
        refine CW.callP (key_p x) Tryz.call29 rfl rfl rfl (by first | exact .inl rfl | exact .inr ⟨_, _, rfl, by simp⟩ | exact .inr ⟨_, _, rfl, by simp [*]⟩) rfl (by simp) rfl rfl (CW.runOps 9999 400 rfl ?_)
        simp [Tryz.ntmps39, Tryz.results39]
        refine CW.callP (cmpK_p y.key x.key) Tryz.call65 rfl rfl rfl (by first | exact .inl rfl | exact .inr ⟨_, _, rfl, by simp⟩ | exact .inr ⟨_, _, rfl, by simp [*]⟩) rfl (by simp) rfl rfl (CW.runOps 9999 400 rfl ?_)
        simp [Tryz.ntmps39, Tryz.results39]
        refine ⟨by decide +kernel, ?_⟩
        refine run_br_split (fun h3 => ?_) (fun h3 => ?_) <;> simp only [h3] <;> simp [hr, hy, Tryz.ntmps39, Tryz.results39] <;> (try simp only [Bool.not_eq_true', Bool.not_eq_false', decide_eq_true_eq, decide_eq_false_iff_not] at h3)
        · have e : tabE l = 2 := tabE_asc' h64 hf (fun ha => by have := asc_no ha hy hr; omega)
          first | (exact fin0 (by simp [e]) rfl) | (refine ⟨by decide +kernel, ?_⟩; exact fin0 (by simp [e]) rfl)
        · have h4 : cmpK y.key x.key = -1 := by have := cmpK_range y.key x.key; omega
          refine hB _ ⟨m + 1 + 1, by omega, by rw [ht]; exact asc_snoc _ _ hi (fun z hz => by rw [last_take hy] at hz; cases hz; exact h4)⟩ [] ?_ (by simp; omega)
          constructor <;> simp [w1]
    · have hkl : k = (l).length := by simp at h; omega
      subst hkl
      simp only [h]
      simp [List.take_length, List.drop_length, Tryz.ntmps39, Tryz.results39]
      rw [List.take_length] at hi
      clear hB
      refine CW.callP (kind_p l 0 (by omega)) Tryz.call66 rfl rfl rfl (by first | exact .inl rfl | exact .inr ⟨_, _, rfl, by simp⟩ | exact .inr ⟨_, _, rfl, by simp [*]⟩) rfl (by simp) rfl rfl (CW.runOps 9999 400 rfl ?_)
      simp [Tryz.ntmps39, Tryz.results39]
      have hKl : (l.filter fun r => decide (r.kind = 0)).length ≤ 64 := Nat.le_trans (List.length_filter_le _ _) hl
      have hports : portsR l = (l.filter fun r => decide (r.kind = 0)).map Res.port := rfl
      generalize (l.filter fun r => decide (r.kind = 0)) = K at hKl hports
      refine LoopW.inv mixed (Plain.retC _ _ _ _ _) rfl (ι := {k : Nat // k ≤ (K).length ∧ ((K.take k).map Res.port).Nodup}) (fun k => [(7, .own 64), (50, lst (K.map resC)), (51, int K.length), (52, int k.1)]) (fun k => [(64, .map false [.int] false (lookP ((K.take k.1).map Res.port)))]) 65 (fun k => (K).length - k.1) ⟨0, by omega, by simp⟩ [] (by constructor <;> simp [lookP_nil]) ?_
      rintro ⟨k, hk1, hi⟩ B hB
      refine CW.run 9999 400 rfl ?_
      simp [lookP_nil, Tryz.ntmps39, Tryz.results39]
      refine run_br_split (fun h => ?_) (fun h => ?_)
      · have hk : k < (K).length := by simpa using h
        have hr : (K)[k]? = some (K)[k] := List.getElem?_eq_getElem hk
        have hm : (K)[k] ∈ (K) := List.getElem_mem hk
        have ht : (K).take (k + 1) = (K).take k ++ [(K)[k]] := by rw [List.take_add_one, hr]; rfl
        have hd : (K).drop k = (K)[k] :: (K).drop (k + 1) := List.drop_eq_getElem_cons hk
        have hw : IntKind.wrap .i64 ((k : Int) + 1) = k + 1 := wrap_i64 (by omega) (by omega)
        obtain ⟨x, hx⟩ : ∃ x0, (K)[k] = x0 := ⟨_, rfl⟩
        rw [hx] at hr hm ht hd
        simp only [h]
        simp [hr, hw, Tryz.ntmps39, Tryz.results39]
        by_cases hP : x.port ∈ (K.take k).map Res.port
        · have hL := port_in hP
          rw [List.map_take] at hL
          have e : tabE l = 13 := by
            rw [tabE_ports h64 hf ‹AscR l›, if_neg]
            rw [hports]
            intro hn
            have hs := hn.sublist ((List.take_sublist (k + 1) K).map Res.port)
            rw [ht, List.map_append, List.map_cons, List.map_nil, nodup_snoc] at hs
            exact hs.2 hP
          simp [hL, Tryz.ntmps39, Tryz.results39]
          first | (exact fin0 (by simp [e]) rfl) | (refine ⟨by decide +kernel, ?_⟩; exact fin0 (by simp [e]) rfl)
        · have hL := port_out hP
          rw [List.map_take] at hL
          simp [hL, Tryz.ntmps39, Tryz.results39]
          refine hB _ ⟨k + 1, by omega, by rw [ht, List.map_append, List.map_cons, List.map_nil, nodup_snoc]; exact ⟨hi, hP⟩⟩ [] ?_ (by simp; omega)
          constructor <;> simp [hw, ht]
      · have hkl : k = (K).length := by simp at h; omega
        subst hkl
        simp only [h]
        simp [List.take_length, List.drop_length, Tryz.ntmps39, Tryz.results39]
        rw [List.take_length] at hi
        have e : tabE l = 0 := by rw [tabE_ports h64 hf ‹AscR l›, hports, if_pos hi]
        first | (exact fin0 (by simp [e]) rfl) | (refine ⟨by decide +kernel, ?_⟩; exact fin0 (by simp [e]) rfl)

end Go.Proofs.YtnccdcgpabaopaaGreatDoor
end
section
namespace Go.Proofs.YtnccdcgpabaopaaGreatDoor
open Go.AI Go.G
set_option maxRecDepth 20000

-- groyne/groynelaw14.ViewFree
theorem viewFree_w (v : View) (k_ : Key) (hv : OkView v) (hk : nB k_.name) : Ct Tryz.prog 8 [st (viewC v), st (keyC k_)] [] [] (bool true) [] := by
  refine Ct.of_body Tryz.func8 rfl mixed (by rw [Tryz.ntmps8]; simp) (CW.run 9999 400 rfl ?_)
  simp [Tryz.ntmps8, Tryz.results8]
  refine CW.callP (awake_l ) Tryz.call10 rfl rfl rfl (by first | exact .inl rfl | exact .inr ⟨_, _, rfl, by simp⟩ | exact .inr ⟨_, _, rfl, by simp [*]⟩) rfl (by simp) rfl rfl (CW.runOps 9999 400 rfl ?_)
  simp [Tryz.ntmps8, Tryz.results8]
  refine CW.callP (fewV_r v hv) Tryz.call11 rfl rfl rfl (by first | exact .inl rfl | exact .inr ⟨_, _, rfl, by simp⟩ | exact .inr ⟨_, _, rfl, by simp [*]⟩) rfl (by simp) rfl rfl (CW.runOps 9999 400 rfl ?_)
  simp [Tryz.ntmps8, Tryz.results8]
  refine run_gd_split (fun h1 => ?_) (fun h1 => ?_) <;> simp only [h1] <;> simp [Tryz.ntmps8, Tryz.results8] <;> (try simp only [Bool.not_eq_true', Bool.not_eq_false', decide_eq_true_eq, decide_eq_false_iff_not] at h1)
  · first | (exact fin0 (by simp) rfl) | (refine ⟨by decide +kernel, ?_⟩; exact fin0 (by simp) rfl)
  refine CW.callP (tsane_p v.have_) Tryz.call39 rfl rfl rfl (by first | exact .inl rfl | exact .inr ⟨_, _, rfl, by simp⟩ | exact .inr ⟨_, _, rfl, by simp [*]⟩) rfl (by simp) rfl rfl (CW.runOps 9999 400 rfl ?_)
  simp [Tryz.ntmps8, Tryz.results8]
  refine run_br_split (fun h2 => ?_) (fun h2 => ?_) <;> simp only [h2] <;> simp [Tryz.ntmps8, Tryz.results8] <;> (try simp only [Bool.not_eq_true', Bool.not_eq_false', decide_eq_true_eq, decide_eq_false_iff_not] at h2)
  · first | (exact fin0 (by simp) rfl) | (refine ⟨by decide +kernel, ?_⟩; exact fin0 (by simp) rfl)
  have b1 := fewV_b h1
  have c1 := b1.push.have_
  have c2 := b1.have_
  have c3 := b1.held
  refine CW.callP (view1_l v (by omega)) Tryz.call14 rfl rfl rfl (by first | exact .inl rfl | exact .inr ⟨_, _, rfl, by simp⟩ | exact .inr ⟨_, _, rfl, by simp [*]⟩) rfl (by simp) rfl rfl (CW.runOps 9999 400 rfl ?_)
  simp [Tryz.ntmps8, Tryz.results8]
  refine CW.callP (free_p v k_ (by omega) (by omega)) Tryz.call23 rfl rfl rfl (by first | exact .inl rfl | exact .inr ⟨_, _, rfl, by simp⟩ | exact .inr ⟨_, _, rfl, by simp [*]⟩) rfl (by simp) rfl rfl (CW.runOps 9999 400 rfl ?_)
  simp [Tryz.ntmps8, Tryz.results8]
  refine ⟨by decide +kernel, ?_⟩
  cases hf : freeV v k_ with
  | false =>
    refine LoopW.inv mixed (Plain.retC _ _ _ _ _) rfl (ι := {k : Nat // k ≤ (v.held).length}) (fun k => [(2, .ptr 64 0), (3, .ptr 65 0), (5, bool true), (6, bool false), (7, int k.1)]) (fun k => [(64, .cells ((viewC v).map .d) 29), (65, .cells ((keyC k_).map .d) 31)]) 66 (fun k => (v.held).length - k.1) ⟨0, by omega⟩ [] (by constructor <;> simp) ?_
    rintro ⟨k, hk1⟩ B hB
    refine CW.run 9999 400 rfl ?_
    simp [Tryz.ntmps8, Tryz.results8]
    refine run_br_split (fun h => ?_) (fun h => ?_)
    · have hk : k < (v.held).length := by simpa using h
      have hr : (v.held)[k]? = some (v.held)[k] := List.getElem?_eq_getElem hk
      have hm : (v.held)[k] ∈ (v.held) := List.getElem_mem hk
      have ht : (v.held).take (k + 1) = (v.held).take k ++ [(v.held)[k]] := by rw [List.take_add_one, hr]; rfl
      have hd : (v.held).drop k = (v.held)[k] :: (v.held).drop (k + 1) := List.drop_eq_getElem_cons hk
      have hw : IntKind.wrap .i64 ((k : Int) + 1) = k + 1 := wrap_i64 (by omega) (by omega)
      obtain ⟨x, hx⟩ : ∃ x0, (v.held)[k] = x0 := ⟨_, rfl⟩
      rw [hx] at hr hm ht hd
      simp only [h]
      simp [hr, hw, Tryz.ntmps8, Tryz.results8]
      refine ⟨by decide +kernel, ?_⟩
      refine hB _ ⟨k + 1, by omega⟩ [] ?_ (by simp; omega)
      constructor <;> simp [hw, ht]
    · have hkl : k = (v.held).length := by simp at h; omega
      subst hkl
      simp only [h]
      simp [List.take_length, List.drop_length, Tryz.ntmps8, Tryz.results8]
      first | (exact fin0 (by simp) rfl) | (refine ⟨by decide +kernel, ?_⟩; exact fin0 (by simp) rfl)
  | true =>
    simp only [freeV, Bool.and_eq_true, Bool.not_eq_true', decide_eq_false_iff_not, decide_eq_true_eq] at hf
    obtain ⟨⟨f1, f2⟩, f3⟩ := hf
    refine LoopW.inv mixed (Plain.retC _ _ _ _ _) rfl (ι := {k : Nat // k ≤ (v.held).length}) (fun k => [(2, .ptr 64 0), (3, .ptr 65 0), (5, bool true), (6, bool true), (7, int k.1)]) (fun k => [(64, .cells ((viewC v).map .d) 29), (65, .cells ((keyC k_).map .d) 31)]) 66 (fun k => (v.held).length - k.1) ⟨0, by omega⟩ [] (by constructor <;> simp) ?_
    rintro ⟨k, hk1⟩ B hB
    refine CW.run 9999 400 rfl ?_
    simp [Tryz.ntmps8, Tryz.results8]
    refine run_br_split (fun h => ?_) (fun h => ?_)
    · have hk : k < (v.held).length := by simpa using h
      have hr : (v.held)[k]? = some (v.held)[k] := List.getElem?_eq_getElem hk
      have hm : (v.held)[k] ∈ (v.held) := List.getElem_mem hk
      have ht : (v.held).take (k + 1) = (v.held).take k ++ [(v.held)[k]] := by rw [List.take_add_one, hr]; rfl
      have hd : (v.held).drop k = (v.held)[k] :: (v.held).drop (k + 1) := List.drop_eq_getElem_cons hk
      have hw : IntKind.wrap .i64 ((k : Int) + 1) = k + 1 := wrap_i64 (by omega) (by omega)
      obtain ⟨x, hx⟩ : ∃ x0, (v.held)[k] = x0 := ⟨_, rfl⟩
      rw [hx] at hr hm ht hd
      simp only [h]
      simp [hr, hw, Tryz.ntmps8, Tryz.results8]
      have hne : ¬ x = k_ := fun e => f2 (e ▸ hm)
      rw [key_eq]
      refine ⟨by decide +kernel, ?_⟩
      simp [hne, Tryz.ntmps8, Tryz.results8]
      refine hB _ ⟨k + 1, by omega⟩ [] ?_ (by simp; omega)
      constructor <;> simp [hw, ht]
    · have hkl : k = (v.held).length := by simp at h; omega
      subst hkl
      simp only [h]
      simp [List.take_length, List.drop_length, Tryz.ntmps8, Tryz.results8]
      have hm := free_miss f3
      have hwl := without_len v.have_ k_
      refine CW.callP (without_p v.have_ k_ (by omega)) Tryz.call41 rfl rfl rfl (by first | exact .inl rfl | exact .inr ⟨_, _, rfl, by simp⟩ | exact .inr ⟨_, _, rfl, by simp [*]⟩) rfl (by simp) rfl rfl (CW.runOps 9999 400 rfl ?_)
      simp [Tryz.ntmps8, Tryz.results8]
      refine CW.callP (missing_p (withoutR v.have_ k_) (by omega)) Tryz.call40 rfl rfl rfl (by first | exact .inl rfl | exact .inr ⟨_, _, rfl, by simp⟩ | exact .inr ⟨_, _, rfl, by simp [*]⟩) rfl (by simp) rfl rfl (CW.runOps 9999 400 rfl ?_)
      simp [Tryz.ntmps8, Tryz.results8]
      refine CW.callP (missing_p v.have_ (by omega)) Tryz.call40 rfl rfl rfl (by first | exact .inl rfl | exact .inr ⟨_, _, rfl, by simp⟩ | exact .inr ⟨_, _, rfl, by simp [*]⟩) rfl (by simp) rfl rfl (CW.runOps 9999 400 rfl ?_)
      simp [Tryz.ntmps8, Tryz.results8]
      simp [hm, Tryz.ntmps8, Tryz.results8]
      refine CW.callP (refers_p v.have_ k_ (by omega)) Tryz.call42 rfl rfl rfl (by first | exact .inl rfl | exact .inr ⟨_, _, rfl, by simp⟩ | exact .inr ⟨_, _, rfl, by simp [*]⟩) rfl (by simp) rfl rfl (CW.runOps 9999 400 rfl ?_)
      simp [Tryz.ntmps8, Tryz.results8]
      refine ⟨by decide +kernel, ?_⟩
      exact fin0 (by simpa using f3) rfl

end Go.Proofs.YtnccdcgpabaopaaGreatDoor
end
section
namespace Go.Proofs.YtnccdcgpabaopaaGreatDoor
open Go.AI Go.G
set_option maxRecDepth 20000

-- groyne/policy.bounded
theorem bounded_p (n : Int) : Ct Tryz.prog 74 [int n] [] [] (int (capN n)) [] := by
  refine Ct.of_body Tryz.func74 rfl mixed (by rw [Tryz.ntmps74]; simp) (CW.run 9999 400 rfl ?_)
  simp [Tryz.ntmps74, Tryz.results74]
  have e := capN_min n
  first | (exact fin0 (by simp [e]) rfl) | (refine ⟨by decide +kernel, ?_⟩; exact fin0 (by simp [e]) rfl)

-- groyne/policy.New
theorem newS_p (n : Int) : Ct Tryz.prog 75 [int n] [] [] (st (storeC (newS n))) [] := by
  refine Ct.of_body Tryz.func75 rfl mixed (by rw [Tryz.ntmps75]; simp) (CW.run 9999 400 rfl ?_)
  simp [Tryz.ntmps75, Tryz.results75]
  refine CW.callP (bounded_p n) Tryz.call74 rfl rfl rfl (by first | exact .inl rfl | exact .inr ⟨_, _, rfl, by simp⟩ | exact .inr ⟨_, _, rfl, by simp [*]⟩) rfl (by simp) rfl rfl (CW.runOps 9999 400 rfl ?_)
  simp [Tryz.ntmps75, Tryz.results75]
  first | (exact fin0 (by simp [newS]) rfl) | (refine ⟨by decide +kernel, ?_⟩; exact fin0 (by simp [newS]) rfl)

-- groyne/groyneref09.New
theorem newS_r (n : Int) : Ct Tryz.prog 154 [int n] [] [] (st (storeC (newS n))) [] := by
  refine Ct.of_body Tryz.func154 rfl mixed (by rw [Tryz.ntmps154]; simp) (CW.run 9999 400 rfl ?_)
  simp [Tryz.ntmps154, Tryz.results154]
  have e := capN_min n
  first | (exact fin0 (by simp [e, newS]) rfl) | (refine ⟨by decide +kernel, ?_⟩; exact fin0 (by simp [e, newS]) rfl)

-- groyne/policy.taken
theorem taken_p (s : Store) : Ct Tryz.prog 73 [st (storeC s)] [] [] (st (storeC (takenS s))) [] := by
  refine Ct.of_body Tryz.func73 rfl mixed (by rw [Tryz.ntmps73]; simp) (CW.run 9999 400 rfl ?_)
  simp [Tryz.ntmps73, Tryz.results73]
  refine CW.callP (bounded_p s.cap) Tryz.call74 rfl rfl rfl (by first | exact .inl rfl | exact .inr ⟨_, _, rfl, by simp⟩ | exact .inr ⟨_, _, rfl, by simp [*]⟩) rfl (by simp) rfl rfl (CW.runOps 9999 400 rfl ?_)
  simp [Tryz.ntmps73, Tryz.results73]
  refine run_br_split (fun h1 => ?_) (fun h1 => ?_) <;> simp only [h1] <;> simp [Tryz.ntmps73, Tryz.results73] <;> (try simp only [Bool.not_eq_true', Bool.not_eq_false', decide_eq_true_eq, decide_eq_false_iff_not] at h1)
  · have h0 : s.hist = [] := by first | exact h1 | exact List.eq_nil_of_length_eq_zero (by omega)
    refine CW.callP (newS_p (capN s.cap)) Tryz.call75 rfl rfl rfl (by first | exact .inl rfl | exact .inr ⟨_, _, rfl, by simp⟩ | exact .inr ⟨_, _, rfl, by simp [*]⟩) rfl (by simp) rfl rfl (CW.runOps 9999 400 rfl ?_)
    simp [Tryz.ntmps73, Tryz.results73]
    rw [taken_nil h0]
    first | (exact fin0 (by simp [newS, capN_idem]) rfl) | (refine ⟨by decide +kernel, ?_⟩; exact fin0 (by simp [newS, capN_idem]) rfl)
  · have h0 : ¬ s.hist = [] := by first | exact h1 | exact fun e => h1 (by rw [e]; rfl)
    rw [taken_some h0]
    first | (exact fin0 (by simp) rfl) | (refine ⟨by decide +kernel, ?_⟩; exact fin0 (by simp) rfl)

-- groyne/groyneref09.taken
theorem taken_r (s : Store) : Ct Tryz.prog 121 [st (storeC s)] [] [] (st (storeC (takenS s))) [] := by
  refine Ct.of_body Tryz.func121 rfl mixed (by rw [Tryz.ntmps121]; simp) (CW.run 9999 400 rfl ?_)
  simp [Tryz.ntmps121, Tryz.results121]
  refine CW.callP (newS_r s.cap) Tryz.call154 rfl rfl rfl (by first | exact .inl rfl | exact .inr ⟨_, _, rfl, by simp⟩ | exact .inr ⟨_, _, rfl, by simp [*]⟩) rfl (by simp) rfl rfl (CW.runOps 9999 400 rfl ?_)
  simp [Tryz.ntmps121, Tryz.results121]
  refine run_br_split (fun h1 => ?_) (fun h1 => ?_) <;> simp only [h1] <;> simp [Tryz.ntmps121, Tryz.results121] <;> (try simp only [Bool.not_eq_true', Bool.not_eq_false', decide_eq_true_eq, decide_eq_false_iff_not] at h1)
  · have h0 : ¬ s.hist = [] := fun e => by rw [e] at h1; simp at h1
    rw [taken_some h0]
    first | (exact fin0 (by simp [newS]) rfl) | (refine ⟨by decide +kernel, ?_⟩; exact fin0 (by simp [newS]) rfl)
  · have h0 : s.hist = [] := List.eq_nil_of_length_eq_zero (by omega)
    rw [taken_nil h0]
    first | (exact fin0 (by simp [newS]) rfl) | (refine ⟨by decide +kernel, ?_⟩; exact fin0 (by simp [newS]) rfl)

-- groyne/policy.At
theorem at_p (s : Store) (i : Int) : Ct Tryz.prog 43 [st (storeC s), int i] [] [] (atA s i) [] := by
  refine Ct.of_body Tryz.func43 rfl mixed (by rw [Tryz.ntmps43]; simp) (CW.run 9999 400 rfl ?_)
  simp [Tryz.ntmps43, Tryz.results43]
  refine CW.callP (taken_p s) Tryz.call73 rfl rfl rfl (by first | exact .inl rfl | exact .inr ⟨_, _, rfl, by simp⟩ | exact .inr ⟨_, _, rfl, by simp [*]⟩) rfl (by simp) rfl rfl (CW.runOps 9999 400 rfl ?_)
  simp [Tryz.ntmps43, Tryz.results43]
  refine run_gd_split (fun h1 => ?_) (fun h1 => ?_) <;> simp only [h1] <;> simp [Tryz.ntmps43, Tryz.results43] <;> (try simp only [Bool.not_eq_true', Bool.not_eq_false', decide_eq_true_eq, decide_eq_false_iff_not] at h1)
  · have e := at_neg (s := s) h1
    first | (exact fin0 (by simp [e]) rfl) | (refine ⟨by decide +kernel, ?_⟩; exact fin0 (by simp [e]) rfl)
  refine run_br_split (fun h2 => ?_) (fun h2 => ?_) <;> simp only [h2] <;> simp [Tryz.ntmps43, Tryz.results43] <;> (try simp only [Bool.not_eq_true', Bool.not_eq_false', decide_eq_true_eq, decide_eq_false_iff_not] at h2)
  · have e := at_big (s := s) (i := i) (by omega)
    first | (exact fin0 (by simp [e]) rfl) | (refine ⟨by decide +kernel, ?_⟩; exact fin0 (by simp [e]) rfl)
  · obtain ⟨l, ⟨hh, e3⟩, e1, e⟩ := at_get (s := s) h1 (by omega)
    have c1 : 0 ≤ i := by omega
    have c2 : i < (takenS s).hist.length := by omega
    simp [e1, c1, c2, e3, Tryz.ntmps43, Tryz.results43]
    first | (exact fin0 (by simp [e]) rfl) | (refine ⟨by decide +kernel, ?_⟩; exact fin0 (by simp [e]) rfl)

-- groyne/groyneref09.At
theorem at_r (s : Store) (i : Int) : Ct Tryz.prog 92 [st (storeC s), int i] [] [] (atA s i) [] := by
  refine Ct.of_body Tryz.func92 rfl mixed (by rw [Tryz.ntmps92]; simp) (CW.run 9999 400 rfl ?_)
  simp [Tryz.ntmps92, Tryz.results92]
  refine CW.callP (taken_r s) Tryz.call121 rfl rfl rfl (by first | exact .inl rfl | exact .inr ⟨_, _, rfl, by simp⟩ | exact .inr ⟨_, _, rfl, by simp [*]⟩) rfl (by simp) rfl rfl (CW.runOps 9999 400 rfl ?_)
  simp [Tryz.ntmps92, Tryz.results92]
  refine run_gd_split (fun h1 => ?_) (fun h1 => ?_) <;> simp only [h1] <;> simp [Tryz.ntmps92, Tryz.results92] <;> (try simp only [Bool.not_eq_true', Bool.not_eq_false', decide_eq_true_eq, decide_eq_false_iff_not] at h1)
  · have e := at_neg (s := s) h1
    first | (exact fin0 (by simp [e]) rfl) | (refine ⟨by decide +kernel, ?_⟩; exact fin0 (by simp [e]) rfl)
  refine run_br_split (fun h2 => ?_) (fun h2 => ?_) <;> simp only [h2] <;> simp [Tryz.ntmps92, Tryz.results92] <;> (try simp only [Bool.not_eq_true', Bool.not_eq_false', decide_eq_true_eq, decide_eq_false_iff_not] at h2)
  · have e := at_big (s := s) (i := i) (by omega)
    first | (exact fin0 (by simp [e]) rfl) | (refine ⟨by decide +kernel, ?_⟩; exact fin0 (by simp [e]) rfl)
  · obtain ⟨l, ⟨hh, e3⟩, e1, e⟩ := at_get (s := s) h1 (by omega)
    have c1 : 0 ≤ i := by omega
    have c2 : i < (takenS s).hist.length := by omega
    simp [e1, c1, c2, e3, Tryz.ntmps92, Tryz.results92]
    first | (exact fin0 (by simp [e]) rfl) | (refine ⟨by decide +kernel, ?_⟩; exact fin0 (by simp [e]) rfl)

-- groyne/policy.Find
theorem find_p (s : Store) (k_ : Key) (v : Int) (hs : OkStore s) : Ct Tryz.prog 91 [st (storeC s), st (keyC k_), int v] [] [] (findA s k_ v) [] := by
  refine Ct.of_body Tryz.func91 rfl mixed (by rw [Tryz.ntmps91]; simp) (CW.run 9999 400 rfl ?_)
  simp [Tryz.ntmps91, Tryz.results91]
  refine CW.callP (at_p s v) Tryz.call43 rfl rfl rfl (by first | exact .inl rfl | exact .inr ⟨_, _, rfl, by simp⟩ | exact .inr ⟨_, _, rfl, by simp [*]⟩) rfl (by simp) rfl rfl (CW.runOps 9999 400 rfl ?_)
  simp [Tryz.ntmps91, Tryz.results91]
  refine CW.callP (get_p ((atS s v).getD []) k_ (ok_at hs v).len) Tryz.call28 rfl rfl rfl (by first | exact .inl rfl | exact .inr ⟨_, _, rfl, by simp⟩ | exact .inr ⟨_, _, rfl, by simp [*]⟩) rfl (by simp) rfl rfl (CW.runOps 9999 400 rfl ?_)
  simp [Tryz.ntmps91, Tryz.results91]
  cases hg : getR ((atS s v).getD []) k_ with
  | none =>
    have e := findS_none hg
    simp [Tryz.ntmps91, Tryz.results91]
    first | (exact fin0 (by simp [e, zRes]) rfl) | (refine ⟨by decide +kernel, ?_⟩; exact fin0 (by simp [e, zRes]) rfl)
  | some r =>
    have e := findS_some hg
    simp [Tryz.ntmps91, Tryz.results91]
    refine run_br_split (fun h1 => ?_) (fun h1 => ?_) <;> simp only [h1] <;> simp [Tryz.ntmps91, Tryz.results91] <;> (try simp only [Bool.not_eq_true', Bool.not_eq_false', decide_eq_true_eq, decide_eq_false_iff_not] at h1)
    · rw [if_pos h1] at e
      first | (exact fin0 (by simp [e]) rfl) | (refine ⟨by decide +kernel, ?_⟩; exact fin0 (by simp [e]) rfl)
    · rw [if_neg h1] at e
      first | (exact fin0 (by simp [e, zRes]) rfl) | (refine ⟨by decide +kernel, ?_⟩; exact fin0 (by simp [e, zRes]) rfl)

-- groyne/groyneref09.Find
theorem find_r (s : Store) (k_ : Key) (v : Int) (hs : OkStore s) : Ct Tryz.prog 61 [st (storeC s), st (keyC k_), int v] [] [] (findA s k_ v) [] := by
  refine Ct.of_body Tryz.func61 rfl mixed (by rw [Tryz.ntmps61]; simp) (CW.run 9999 400 rfl ?_)
  simp [Tryz.ntmps61, Tryz.results61]
  refine CW.callP (at_r s v) Tryz.call92 rfl rfl rfl (by first | exact .inl rfl | exact .inr ⟨_, _, rfl, by simp⟩ | exact .inr ⟨_, _, rfl, by simp [*]⟩) rfl (by simp) rfl rfl (CW.runOps 9999 400 rfl ?_)
  simp [Tryz.ntmps61, Tryz.results61]
  refine CW.callP (get_r ((atS s v).getD []) k_ (ok_at hs v).len) Tryz.call48 rfl rfl rfl (by first | exact .inl rfl | exact .inr ⟨_, _, rfl, by simp⟩ | exact .inr ⟨_, _, rfl, by simp [*]⟩) rfl (by simp) rfl rfl (CW.runOps 9999 400 rfl ?_)
  simp [Tryz.ntmps61, Tryz.results61]
  cases ha : atS s v with
  | none =>
    have e : findS s k_ v = none := by simp [findS, ha, getR]
    simp [Tryz.ntmps61, Tryz.results61]
    first | (exact fin0 (by simp [e, zRes]) rfl) | (refine ⟨by decide +kernel, ?_⟩; exact fin0 (by simp [e, zRes]) rfl)
  | some l =>
    cases hg : getR l k_ with
    | none =>
      have e : findS s k_ v = none := by simp [findS, ha, hg]
      simp [hg, Tryz.ntmps61, Tryz.results61]
      first | (exact fin0 (by simp [e, zRes]) rfl) | (refine ⟨by decide +kernel, ?_⟩; exact fin0 (by simp [e, zRes]) rfl)
    | some r =>
      have e : findS s k_ v = if r.ver = v then some r else none := by simp [findS, ha, hg]
      simp [hg, Tryz.ntmps61, Tryz.results61]
      refine run_br_split (fun h1 => ?_) (fun h1 => ?_) <;> simp only [h1] <;> simp [Tryz.ntmps61, Tryz.results61] <;> (try simp only [Bool.not_eq_true', Bool.not_eq_false', decide_eq_true_eq, decide_eq_false_iff_not] at h1)
      · rw [if_neg h1] at e
        first | (exact fin0 (by simp [e, zRes]) rfl) | (refine ⟨by decide +kernel, ?_⟩; exact fin0 (by simp [e, zRes]) rfl)
      · rw [if_pos h1] at e
        first | (exact fin0 (by simp [e]) rfl) | (refine ⟨by decide +kernel, ?_⟩; exact fin0 (by simp [e]) rfl)

-- groyne/view.finder$1
theorem find1 (s : Store) (m : G.Mark) (hs : OkStore s) : Ct Tryz.prog 90 [st (markC m), .d (.pro (storeC s))] [] [] (st (resC (ofM s m))) [] := by
  refine Ct.of_body Tryz.func90 rfl mixed (by rw [Tryz.ntmps90]; simp) (CW.run 9999 400 rfl ?_)
  simp [Tryz.ntmps90, Tryz.results90]
  refine CW.callP (find_p s m.k m.ver hs) Tryz.call91 rfl rfl rfl (by first | exact .inl rfl | exact .inr ⟨_, _, rfl, by simp⟩ | exact .inr ⟨_, _, rfl, by simp [*]⟩) rfl (by simp) rfl rfl (CW.runOps 9999 400 rfl ?_)
  simp [Tryz.ntmps90, Tryz.results90]
  cases hg : findS s m.k m.ver with
  | none =>
    have e : ofM s m = bareR m := by simp [ofM, hg]
    simp [Tryz.ntmps90, Tryz.results90]
    first | (exact fin0 (by simp [e, bareR]) rfl) | (refine ⟨by decide +kernel, ?_⟩; exact fin0 (by simp [e, bareR]) rfl)
  | some r =>
    have e : ofM s m = r := by simp [ofM, hg]
    simp [Tryz.ntmps90, Tryz.results90]
    first | (exact fin0 (by simp [e]) rfl) | (refine ⟨by decide +kernel, ?_⟩; exact fin0 (by simp [e]) rfl)

-- groyne/view.finder
theorem finder_p (s : Store) : Ct Tryz.prog 60 [st (storeC s)] [] [] (.d (.fn (.func 90) [] [.pro (storeC s)])) [] := by
  refine Ct.of_body Tryz.func60 rfl mixed (by rw [Tryz.ntmps60]; simp) (CW.run 9999 400 rfl ?_)
  simp [Tryz.ntmps60, Tryz.results60]
  first | (exact fin0 (by simp) rfl) | (refine ⟨by decide +kernel, ?_⟩; exact fin0 (by simp) rfl)

-- groyne/view.Known
theorem known_p (s : Store) (l : List G.Mark) (hs : OkStore s) (hl : l.length ≤ 1000) : Ct Tryz.prog 35 [st (storeC s), lst (l.map markC)] [] [] (lst ((knownV s l).map resC)) [] := by
  refine Ct.of_body Tryz.func35 rfl mixed (by rw [Tryz.ntmps35]; simp) (CW.run 9999 400 rfl ?_)
  simp [Tryz.ntmps35, Tryz.results35]
  refine CW.callP (finder_p s) Tryz.call60 rfl rfl rfl (by first | exact .inl rfl | exact .inr ⟨_, _, rfl, by simp⟩ | exact .inr ⟨_, _, rfl, by simp [*]⟩) rfl (by simp) rfl rfl (CW.runOps 9999 400 rfl ?_)
  simp [Tryz.ntmps35, Tryz.results35]
  refine LoopW.inv mixed (Plain.retC _ _ _ _ _) rfl (ι := {k : Nat // k ≤ (l).length}) (fun k => [(5, .d (.fn (.func 90) [] [.pro (storeC s)])), (6, lst ((knownV s (l.take k.1)).map resC)), (11, lst (l.map markC)), (12, int l.length), (13, int k.1)]) (fun k => []) 64 (fun k => (l).length - k.1) ⟨0, by omega⟩ [] (by constructor <;> simp [known_nil]) ?_
  rintro ⟨k, hk1⟩ B hB
  refine CW.run 9999 400 rfl ?_
  simp [known_nil, Tryz.ntmps35, Tryz.results35]
  refine run_br_split (fun h => ?_) (fun h => ?_)
  · have hk : k < (l).length := by simpa using h
    have hr : (l)[k]? = some (l)[k] := List.getElem?_eq_getElem hk
    have hm : (l)[k] ∈ (l) := List.getElem_mem hk
    have ht : (l).take (k + 1) = (l).take k ++ [(l)[k]] := by rw [List.take_add_one, hr]; rfl
    have hd : (l).drop k = (l)[k] :: (l).drop (k + 1) := List.drop_eq_getElem_cons hk
    have hw : IntKind.wrap .i64 ((k : Int) + 1) = k + 1 := wrap_i64 (by omega) (by omega)
    obtain ⟨x, hx⟩ : ∃ x0, (l)[k] = x0 := ⟨_, rfl⟩
    rw [hx] at hr hm ht hd
    simp only [h]
    simp [hr, hw, Tryz.ntmps35, Tryz.results35]
    have hlen := known_len s (l.take k)
    have htk : (l.take k).length ≤ 1000 := by simp; omega
    refine CW.callF (FnOk.clo (args := [st (markC x)]) (by exact find1 s x hs) Tryz.call90 rfl rfl) rfl rfl rfl (by first | exact .inl rfl | exact .inr ⟨_, _, rfl, by simp⟩ | exact .inr ⟨_, _, rfl, by simp [*]⟩) rfl (by simp) (CW.runOps 9999 400 rfl ?_)
    simp [Tryz.ntmps35, Tryz.results35]
    refine CW.callP (with_p (knownV s (l.take k)) (ofM s x) (by omega)) Tryz.call55 rfl rfl rfl (by first | exact .inl rfl | exact .inr ⟨_, _, rfl, by simp⟩ | exact .inr ⟨_, _, rfl, by simp [*]⟩) rfl (by simp) rfl rfl (CW.runOps 9999 400 rfl ?_)
    simp [Tryz.ntmps35, Tryz.results35]
    refine hB _ ⟨k + 1, by omega⟩ [] ?_ (by simp; omega)
    constructor <;> simp [hw, ht, known_snoc]
  · have hkl : k = (l).length := by simp at h; omega
    subst hkl
    simp only [h]
    simp [List.take_length, List.drop_length, Tryz.ntmps35, Tryz.results35]
    first | (exact fin0 (by simp) rfl) | (refine ⟨by decide +kernel, ?_⟩; exact fin0 (by simp) rfl)

end Go.Proofs.YtnccdcgpabaopaaGreatDoor
end
section
namespace Go.Proofs.YtnccdcgpabaopaaGreatDoor
open Go.AI Go.G
set_option maxRecDepth 20000

-- groyne/groyneref14.Known
theorem known_r (s : Store) (l : List G.Mark) (hs : OkStore s) (hl : l.length ≤ 1000) (hn : ∀ m ∈ l, nB m.k.name) : Ct Tryz.prog 36 [st (storeC s), lst (l.map markC)] [] [] (lst ((knownV s l).map resC)) [] := by
  refine Ct.of_body Tryz.func36 rfl mixed (by rw [Tryz.ntmps36]; simp) (CW.run 9999 400 rfl ?_)
  simp [Tryz.ntmps36, Tryz.results36]
  refine LoopW.inv mixed (Plain.retC _ _ _ _ _) rfl (ι := {k : Nat // k ≤ (l).length}) (fun k => [(1, lst (l.map markC)), (2, .ptr 64 0), (5, lst ((knownV s (l.take k.1)).map resC)), (6, int k.1)]) (fun k => [(64, .cells ((storeC s).map .d) 72)]) 65 (fun k => (l).length - k.1) ⟨0, by omega⟩ [] (by constructor <;> simp [known_nil]) ?_
  rintro ⟨k, hk1⟩ B hB
  refine CW.run 9999 400 rfl ?_
  simp [known_nil, Tryz.ntmps36, Tryz.results36]
  refine run_br_split (fun h => ?_) (fun h => ?_)
  · have hk : k < (l).length := by simpa using h
    have hr : (l)[k]? = some (l)[k] := List.getElem?_eq_getElem hk
    have hm : (l)[k] ∈ (l) := List.getElem_mem hk
    have ht : (l).take (k + 1) = (l).take k ++ [(l)[k]] := by rw [List.take_add_one, hr]; rfl
    have hd : (l).drop k = (l)[k] :: (l).drop (k + 1) := List.drop_eq_getElem_cons hk
    have hw : IntKind.wrap .i64 ((k : Int) + 1) = k + 1 := wrap_i64 (by omega) (by omega)
    obtain ⟨x, hx⟩ : ∃ x0, (l)[k] = x0 := ⟨_, rfl⟩
    rw [hx] at hr hm ht hd
    simp only [h]
    simp [hr, hw, Tryz.ntmps36, Tryz.results36]
    have hlen := known_len s (l.take k)
    have htk : (l.take k).length ≤ 1000 := by simp; omega
    refine CW.callP (find_r s x.k x.ver hs) Tryz.call61 rfl rfl rfl (by first | exact .inl rfl | exact .inr ⟨_, _, rfl, by simp⟩ | exact .inr ⟨_, _, rfl, by simp [*]⟩) rfl (by simp) rfl rfl (CW.runOps 9999 400 rfl ?_)
    simp [Tryz.ntmps36, Tryz.results36]
    refine ⟨by decide +kernel, ?_⟩
    cases hg : findS s x.k x.ver with
    | none =>
      have e : ofM s x = bareR x := by simp [ofM, hg]
      simp [hr, Tryz.ntmps36, Tryz.results36]
      refine ⟨by decide +kernel, ?_⟩
      refine CW.callP (with_r (knownV s (l.take k)) (bareR x) (by omega) (hn x hm)) Tryz.call62 rfl rfl rfl (by first | exact .inl rfl | exact .inr ⟨_, _, rfl, by simp⟩ | exact .inr ⟨_, _, rfl, by simp [*]⟩) rfl (by simp [bareR]) rfl rfl (CW.runOps 9999 400 rfl ?_)
      simp [bareR, Tryz.ntmps36, Tryz.results36]
      refine hB _ ⟨k + 1, by omega⟩ [] ?_ (by simp; omega)
      constructor <;> simp [hw, ht, known_snoc, e, bareR]
    | some r =>
      have e : ofM s x = r := by simp [ofM, hg]
      have hnr : nB r.name := by rw [← e]; exact find_nB hs (hn x hm)
      simp [Tryz.ntmps36, Tryz.results36]
      refine CW.callP (with_r (knownV s (l.take k)) r (by omega) hnr) Tryz.call62 rfl rfl rfl (by first | exact .inl rfl | exact .inr ⟨_, _, rfl, by simp⟩ | exact .inr ⟨_, _, rfl, by simp [*]⟩) rfl (by simp) rfl rfl (CW.runOps 9999 400 rfl ?_)
      simp [Tryz.ntmps36, Tryz.results36]
      refine hB _ ⟨k + 1, by omega⟩ [] ?_ (by simp; omega)
      constructor <;> simp [hw, ht, known_snoc, e]
  · have hkl : k = (l).length := by simp at h; omega
    subst hkl
    simp only [h]
    simp [List.take_length, List.drop_length, Tryz.ntmps36, Tryz.results36]
    first | (exact fin0 (by simp) rfl) | (refine ⟨by decide +kernel, ?_⟩; exact fin0 (by simp) rfl)

-- groyne/groyneref14.Marks
theorem marks_r (l : List Res) (hl : l.length ≤ 1000000) : Ct Tryz.prog 38 [lst (l.map resC)] [] [] (lst ((marksV l).map markC)) [] := by
  refine Ct.of_body Tryz.func38 rfl mixed (by rw [Tryz.ntmps38]; simp) (CW.run 9999 400 rfl ?_)
  simp [Tryz.ntmps38, Tryz.results38]
  refine LoopW.nilOwn 3 3 90 rfl ?_
  refine LoopW.inv mixed (Plain.retC _ _ _ _ _) rfl (ι := {k : Nat // k ≤ (l).length}) (fun k => [(0, lst (l.map resC)), (3, .own 64), (4, int k.1)]) (fun k => [(64, .grow 3 ((marksV (l.take k.1)).map markC) 90)]) 65 (fun k => (l).length - k.1) ⟨0, by omega⟩ [] (by constructor <;> simp) ?_
  rintro ⟨k, hk1⟩ B hB
  refine CW.run 9999 400 rfl ?_
  simp [Tryz.ntmps38, Tryz.results38]
  refine run_br_split (fun h => ?_) (fun h => ?_)
  · have hk : k < (l).length := by simpa using h
    have hr : (l)[k]? = some (l)[k] := List.getElem?_eq_getElem hk
    have hm : (l)[k] ∈ (l) := List.getElem_mem hk
    have ht : (l).take (k + 1) = (l).take k ++ [(l)[k]] := by rw [List.take_add_one, hr]; rfl
    have hd : (l).drop k = (l)[k] :: (l).drop (k + 1) := List.drop_eq_getElem_cons hk
    have hw : IntKind.wrap .i64 ((k : Int) + 1) = k + 1 := wrap_i64 (by omega) (by omega)
    obtain ⟨x, hx⟩ : ∃ x0, (l)[k] = x0 := ⟨_, rfl⟩
    rw [hx] at hr hm ht hd
    simp only [h]
    simp [hr, hw, Tryz.ntmps38, Tryz.results38]
    refine CW.callP (key_r x) Tryz.call63 rfl rfl rfl (by first | exact .inl rfl | exact .inr ⟨_, _, rfl, by simp⟩ | exact .inr ⟨_, _, rfl, by simp [*]⟩) rfl (by simp [hr]) rfl rfl (CW.runOps 9999 400 rfl ?_)
    simp [hr, Tryz.ntmps38, Tryz.results38]
    refine ⟨by omega, ?_⟩
    refine ⟨by decide +kernel, ?_⟩
    refine hB _ ⟨k + 1, by omega⟩ [] ?_ (by simp; omega)
    constructor <;> simp [hw, ht, marksV_append]
  · have hkl : k = (l).length := by simp at h; omega
    subst hkl
    simp only [h]
    simp [List.take_length, List.drop_length, Tryz.ntmps38, Tryz.results38]
    first | (exact fin0 (by simp) rfl) | (refine ⟨by decide +kernel, ?_⟩; exact fin0 (by simp) rfl)

-- groyne/groynelaw14.few
theorem few_l (s : Store) (hs : OkStore s) : Ct Tryz.prog 32 [st (storeC s)] [] [] (bool (fewS 10 s)) [] := by
  refine Ct.of_body Tryz.func32 rfl mixed (by rw [Tryz.ntmps32]; simp) (CW.run 9999 400 rfl ?_)
  simp [Tryz.ntmps32, Tryz.results32]
  have hh := hs.len
  refine LoopW.inv mixed (Plain.retC _ _ _ _ _) rfl (ι := {k : Nat // k ≤ (s.hist).length ∧ (s.hist.take k).all fewL = true}) (fun k => [(1, .ptr 64 0), (3, int k.1)]) (fun k => [(64, .cells ((storeC s).map .d) 72)]) 65 (fun k => (s.hist).length - k.1) ⟨0, by omega, by simp⟩ [] (by constructor <;> simp) ?_
  rintro ⟨k, hk1, hi⟩ B hB
  refine CW.run 9999 400 rfl ?_
  simp [Tryz.ntmps32, Tryz.results32]
  refine run_br_split (fun h => ?_) (fun h => ?_)
  · have hk : k < (s.hist).length := by simpa using h
    have hr : (s.hist)[k]? = some (s.hist)[k] := List.getElem?_eq_getElem hk
    have hm : (s.hist)[k] ∈ (s.hist) := List.getElem_mem hk
    have ht : (s.hist).take (k + 1) = (s.hist).take k ++ [(s.hist)[k]] := by rw [List.take_add_one, hr]; rfl
    have hd : (s.hist).drop k = (s.hist)[k] :: (s.hist).drop (k + 1) := List.drop_eq_getElem_cons hk
    have hw : IntKind.wrap .i64 ((k : Int) + 1) = k + 1 := wrap_i64 (by omega) (by omega)
    obtain ⟨x, hx⟩ : ∃ x0, (s.hist)[k] = x0 := ⟨_, rfl⟩
    rw [hx] at hr hm ht hd
    simp only [h]
    simp [hr, hw, Tryz.ntmps32, Tryz.results32]
    refine CW.callP (few_r x (hs.all x hm)) Tryz.call25 rfl rfl rfl (by first | exact .inl rfl | exact .inr ⟨_, _, rfl, by simp⟩ | exact .inr ⟨_, _, rfl, by simp [*]⟩) rfl (by simp) rfl rfl (CW.runOps 9999 400 rfl ?_)
    simp [Tryz.ntmps32, Tryz.results32]
    refine run_br_split (fun h1 => ?_) (fun h1 => ?_) <;> simp only [h1] <;> simp [Tryz.ntmps32, Tryz.results32] <;> (try simp only [Bool.not_eq_true', Bool.not_eq_false', decide_eq_true_eq, decide_eq_false_iff_not] at h1)
    · have e : s.hist.all fewL = false := by rw [List.all_eq_false]; exact ⟨x, hm, by simp [h1]⟩
      first | (exact fin0 (by simp [fewS, e]) rfl) | (refine ⟨by decide +kernel, ?_⟩; exact fin0 (by simp [fewS, e]) rfl)
    · refine hB _ ⟨k + 1, by omega, by simp [ht, hi, h1]⟩ [] ?_ (by simp; omega)
      constructor <;> simp [hw, ht, h1]
  · have hkl : k = (s.hist).length := by simp at h; omega
    subst hkl
    simp only [h]
    simp [List.take_length, List.drop_length, Tryz.ntmps32, Tryz.results32]
    rw [List.take_length] at hi
    exact fin0 (by simp [fewS, hi]; try omega) rfl

-- groyne/groynelaw14.ViewKnows
theorem viewKnows_w (s : Store) (l : List G.Mark) (r : List Res) (hs : OkStore s) (hl : l.length ≤ 9223372036854775807 ∧ ∀ m ∈ l, nB m.k.name) (hr : OkRs r) : Ct Tryz.prog 7 [st (storeC s), lst (l.map markC), lst (r.map resC)] [] [] (bool true) [] := by
  refine Ct.of_body Tryz.func7 rfl mixed (by rw [Tryz.ntmps7]; simp) (CW.run 9999 400 rfl ?_)
  simp [Tryz.ntmps7, Tryz.results7]
  refine CW.callP (awake_l ) Tryz.call10 rfl rfl rfl (by first | exact .inl rfl | exact .inr ⟨_, _, rfl, by simp⟩ | exact .inr ⟨_, _, rfl, by simp [*]⟩) rfl (by simp) rfl rfl (CW.runOps 9999 400 rfl ?_)
  simp [Tryz.ntmps7, Tryz.results7]
  refine CW.callP (few_l s hs) Tryz.call32 rfl rfl rfl (by first | exact .inl rfl | exact .inr ⟨_, _, rfl, by simp⟩ | exact .inr ⟨_, _, rfl, by simp [*]⟩) rfl (by simp) rfl rfl (CW.runOps 9999 400 rfl ?_)
  simp [Tryz.ntmps7, Tryz.results7]
  refine run_gd_split (fun h1 => ?_) (fun h1 => ?_) <;> simp only [h1] <;> simp [Tryz.ntmps7, Tryz.results7] <;> (try simp only [Bool.not_eq_true', Bool.not_eq_false', decide_eq_true_eq, decide_eq_false_iff_not] at h1)
  · first | (exact fin0 (by simp) rfl) | (refine ⟨by decide +kernel, ?_⟩; exact fin0 (by simp) rfl)
  refine run_gd_split (fun h2 => ?_) (fun h2 => ?_) <;> simp only [h2] <;> simp [Tryz.ntmps7, Tryz.results7] <;> (try simp only [Bool.not_eq_true', Bool.not_eq_false', decide_eq_true_eq, decide_eq_false_iff_not] at h2)
  · first | (exact fin0 (by simp) rfl) | (refine ⟨by decide +kernel, ?_⟩; exact fin0 (by simp) rfl)
  refine CW.callP (few_r r hr) Tryz.call25 rfl rfl rfl (by first | exact .inl rfl | exact .inr ⟨_, _, rfl, by simp⟩ | exact .inr ⟨_, _, rfl, by simp [*]⟩) rfl (by simp) rfl rfl (CW.runOps 9999 400 rfl ?_)
  simp [Tryz.ntmps7, Tryz.results7]
  refine run_br_split (fun h3 => ?_) (fun h3 => ?_) <;> simp only [h3] <;> simp [Tryz.ntmps7, Tryz.results7] <;> (try simp only [Bool.not_eq_true', Bool.not_eq_false', decide_eq_true_eq, decide_eq_false_iff_not] at h3)
  · first | (exact fin0 (by simp) rfl) | (refine ⟨by decide +kernel, ?_⟩; exact fin0 (by simp) rfl)
  have c1 := fewL_len h3
  refine CW.callP (frame1_l ⟨0, 0, 0, 0, 0, [], [], 0, l, []⟩ (by simp only; omega)) Tryz.call15 rfl rfl rfl (by first | exact .inl rfl | exact .inr ⟨_, _, rfl, by simp⟩ | exact .inr ⟨_, _, rfl, by simp [*]⟩) rfl (by simp) rfl rfl (CW.runOps 9999 400 rfl ?_)
  simp [Tryz.ntmps7, Tryz.results7]
  refine CW.callP (marks_p r (by omega)) Tryz.call34 rfl rfl rfl (by first | exact .inl rfl | exact .inr ⟨_, _, rfl, by simp⟩ | exact .inr ⟨_, _, rfl, by simp [*]⟩) rfl (by simp) rfl rfl (CW.runOps 9999 400 rfl ?_)
  simp [Tryz.ntmps7, Tryz.results7]
  refine CW.callP (plain_l ⟨0, 0, 0, 0, 0, [], [], 0, marksV r, []⟩ (by simp; omega)) Tryz.call33 rfl rfl rfl (by first | exact .inl rfl | exact .inr ⟨_, _, rfl, by simp⟩ | exact .inr ⟨_, _, rfl, by simp [*]⟩) rfl (by simp) rfl rfl (CW.runOps 9999 400 rfl ?_)
  simp [Tryz.ntmps7, Tryz.results7]
  refine CW.callP (known_p s l hs (by omega)) Tryz.call35 rfl rfl rfl (by first | exact .inl rfl | exact .inr ⟨_, _, rfl, by simp⟩ | exact .inr ⟨_, _, rfl, by simp [*]⟩) rfl (by simp) rfl rfl (CW.runOps 9999 400 rfl ?_)
  simp [Tryz.ntmps7, Tryz.results7]
  refine CW.callP (known_r s l hs (by omega) hl.2) Tryz.call36 rfl rfl rfl (by first | exact .inl rfl | exact .inr ⟨_, _, rfl, by simp⟩ | exact .inr ⟨_, _, rfl, by simp [*]⟩) rfl (by simp) rfl rfl (CW.runOps 9999 400 rfl ?_)
  simp [Tryz.ntmps7, Tryz.results7]
  have okK := ok_known hs hl.2 (by omega)
  refine CW.callP (all_r (knownV s l) (knownV s l) okK) Tryz.call27 rfl rfl rfl (by first | exact .inl rfl | exact .inr ⟨_, _, rfl, by simp⟩ | exact .inr ⟨_, _, rfl, by simp [*]⟩) rfl (by simp) rfl rfl (CW.runOps 9999 400 rfl ?_)
  simp [Tryz.ntmps7, Tryz.results7]
  refine CW.callP (marks_r r (by omega)) Tryz.call38 rfl rfl rfl (by first | exact .inl rfl | exact .inr ⟨_, _, rfl, by simp⟩ | exact .inr ⟨_, _, rfl, by simp [*]⟩) rfl (by simp) rfl rfl (CW.runOps 9999 400 rfl ?_)
  simp [Tryz.ntmps7, Tryz.results7]
  refine CW.callP (sameF_r ⟨0, 0, 0, 0, 0, [], [], 0, marksV r, []⟩ ⟨0, 0, 0, 0, 0, [], [], 0, marksV r, []⟩ ⟨⟨by simp, by simp⟩, by simp, by simp; omega, by simp⟩) Tryz.call37 rfl rfl rfl (by first | exact .inl rfl | exact .inr ⟨_, _, rfl, by simp⟩ | exact .inr ⟨_, _, rfl, by simp [*]⟩) rfl (by simp) rfl rfl (CW.runOps 9999 400 rfl ?_)
  simp [Tryz.ntmps7, Tryz.results7]
  refine ⟨by decide +kernel, ?_⟩
  first | (exact fin0 (by simp) rfl) | (refine ⟨by decide +kernel, ?_⟩; exact fin0 (by simp) rfl)

end Go.Proofs.YtnccdcgpabaopaaGreatDoor
end
section
-- WHAT ARGUMENTS ARE, PLAINLY: stores
namespace Go.Proofs.YtnccdcgpabaopaaGreatDoor
open Go.ChangeShapes Go.WideShapes Go.ChangeAt Go.RowKit
open Go.AI Go.G
set_option maxRecDepth 20000
theorem sh_hist : shT Tryz.prog 70 = .sl 22 := by kernel_rfl
theorem sh_store : shT Tryz.prog 72 = .st [3, 70] := by kernel_rfl
variable {n : Nat} {ds : List D}
theorem is_hist (h : Is Tryz.prog (n + 8) 70 ds) : ∃ l : List (List Res), (l.length ≤ 9223372036854775807 ∧ ∀ x ∈ l, OkRs x) ∧ ds = [lD (l.map rsC)] := by
  obtain ⟨es, he, h1, rfl⟩ := is_sl sh_hist h
  obtain ⟨l, hl, rfl⟩ := is_list (fun c => is_ress) h1
  exact ⟨l, ⟨is_len he, hl⟩, rfl⟩
theorem is_store (h : Is Tryz.prog (n + 9) 72 ds) : ∃ s : Store, OkStore s ∧ ds = storeC s := by
  obtain ⟨_, _, h1, g1, rfl⟩ := isF_cons (is_st sh_store h)
  obtain ⟨_, _, h2, g2, rfl⟩ := isF_cons g1
  obtain rfl := isF_nil g2
  obtain ⟨a, _, rfl⟩ := is_int sh_int h1
  obtain ⟨l, ⟨h3, h4⟩, rfl⟩ := is_hist h2
  exact ⟨⟨a, l⟩, ⟨h3, h4⟩, rfl⟩
theorem ag_store : aggT Tryz.prog 72 = true := by kernel_rfl
end Go.Proofs.YtnccdcgpabaopaaGreatDoor
end
