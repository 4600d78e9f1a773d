/-
  LAYERS 5, 6, 9: the walks of the reference where all is well, and of PolicyAlone.
-/
import Derived.Test.YtnmocaniljacpaaGreatDoorWf
import Derived.Test.YtnmocaniljacpaaGreatDoorPq
set_option linter.unusedSimpArgs false
set_option linter.unusedVariables false
section
namespace Go.Proofs.YtnmocaniljacpaaGreatDoor
open Go.AI Go.G
set_option maxRecDepth 20000
theorem there_r (l : List Res) (k_ : Key) (hl : l.length ≤ 9223372036854775807) : Ct Tryz.prog 175 [lst (l.map resC), st (keyC k_)] [] [] (bool (getR l k_).isSome) [] := by
  refine Ct.of_body Tryz.func175 rfl mixed (by rw [Tryz.ntmps175]; simp) (CW.run 9999 400 rfl ?_)
  simp [Tryz.ntmps175, Tryz.results175]
  refine CW.callP (get_r l k_ hl) Tryz.call109 rfl rfl rfl (by first | exact .inl rfl | exact .inr ⟨_, _, rfl, by simp⟩ | exact .inr ⟨_, _, rfl, by simp [*]⟩) rfl (by simp) rfl rfl (CW.runOps 9999 400 rfl ?_)
  simp [Tryz.ntmps175, Tryz.results175]
  first | (exact fin0 (by simp) rfl) | (refine ⟨by decide +kernel, ?_⟩; exact fin0 (by simp) rfl)
theorem missing_r (l : List Res) (hl : l.length ≤ 64) : Ct Tryz.prog 152 [lst (l.map resC)] [] [] (lst ((missR l).map keyC)) [] := by
  refine Ct.of_body Tryz.func152 rfl mixed (by rw [Tryz.ntmps152]; simp) (CW.run 9999 400 rfl ?_)
  simp [Tryz.ntmps152, Tryz.results152]
  refine LoopW.inv mixed (Plain.retC _ _ _ _ _) rfl (ι := {k : Nat // k ≤ (l).length}) (fun k => [(0, lst (l.map resC)), (3, lst (((missP (l.take k.1) l).foldl putK []).map keyC)), (4, int k.1)]) (fun k => []) 64 (fun k => (l).length - k.1) ⟨0, by omega⟩ [] (by constructor <;> simp) ?_
  rintro ⟨k, hk1⟩ B hB
  refine CW.run 9999 400 rfl ?_
  simp [Tryz.ntmps152, Tryz.results152]
  refine run_br_split (fun h => ?_) (fun h => ?_)
  · have hk : k < (l).length := by simpa using h
    have hr : (l)[k]? = some (l)[k] := List.getElem?_eq_getElem hk
    have hm : (l)[k] ∈ (l) := List.getElem_mem hk
    have ht : (l).take (k + 1) = (l).take k ++ [(l)[k]] := by rw [List.take_add_one, hr]; rfl
    have hd : (l).drop k = (l)[k] :: (l).drop (k + 1) := List.drop_eq_getElem_cons hk
    have hw : IntKind.wrap .i64 ((k : Int) + 1) = k + 1 := wrap_i64 (by omega) (by omega)
    obtain ⟨x, hx⟩ : ∃ x0, (l)[k] = x0 := ⟨_, rfl⟩
    rw [hx] at hr hm ht hd
    simp only [h]
    simp [hr, hw, Tryz.ntmps152, Tryz.results152]
    refine CW.callP (refs_r x) Tryz.call174 rfl rfl rfl (by first | exact .inl rfl | exact .inr ⟨_, _, rfl, by simp⟩ | exact .inr ⟨_, _, rfl, by simp [*]⟩) rfl (by simp) rfl rfl (CW.runOps 9999 400 rfl ?_)
    simp [Tryz.ntmps152, Tryz.results152]
    have hrl := refs_le33 x
    refine LoopW.inv mixed (Plain.retC _ _ _ _ _) rfl (ι := {kj : Nat // kj ≤ ((refsK x)).length}) (fun kj => [(0, lst (l.map resC)), (3, lst (((missP (l.take k) l ++ ((refsK x).take kj.1).filter (noR l)).foldl putK []).map keyC)), (4, int k), (5, lst ((refsK x).map keyC)), (6, int kj.1)]) (fun kj => []) 64 (fun kj => ((refsK x)).length - kj.1) ⟨0, by omega⟩ [] (by constructor <;> simp) ?_
    rintro ⟨kj, hk1j⟩ Bj hBj
    refine CW.run 9999 400 rfl ?_
    simp [Tryz.ntmps152, Tryz.results152]
    refine run_br_split (fun hj => ?_) (fun hj => ?_)
    · have hkj : kj < ((refsK x)).length := by simpa using hj
      have hrj : ((refsK x))[kj]? = some ((refsK x))[kj] := List.getElem?_eq_getElem hkj
      have hmj : ((refsK x))[kj] ∈ ((refsK x)) := List.getElem_mem hkj
      have htj : ((refsK x)).take (kj + 1) = ((refsK x)).take kj ++ [((refsK x))[kj]] := by rw [List.take_add_one, hrj]; rfl
      have hdj : ((refsK x)).drop kj = ((refsK x))[kj] :: ((refsK x)).drop (kj + 1) := List.drop_eq_getElem_cons hkj
      have hwj : IntKind.wrap .i64 ((kj : Int) + 1) = kj + 1 := wrap_i64 (by omega) (by omega)
      obtain ⟨q, hxj⟩ : ∃ x0, ((refsK x))[kj] = x0 := ⟨_, rfl⟩
      rw [hxj] at hrj hmj htj hdj
      simp only [hj]
      simp [hrj, hwj, Tryz.ntmps152, Tryz.results152]
      cases hg : (getR l q).isSome with
      | true =>
        have hno : noR l q = false := by simp [noR, hg]
        refine CW.callP (there_r l q (by omega)) Tryz.call175 rfl rfl rfl (by first | exact .inl rfl | exact .inr ⟨_, _, rfl, by simp⟩ | exact .inr ⟨_, _, rfl, by simp [*]⟩) rfl (by simp [hg, hrj]) rfl rfl (CW.runOps 9999 400 rfl ?_)
        simp [hg, hrj, Tryz.ntmps152, Tryz.results152]
        refine hBj _ ⟨kj + 1, by omega⟩ [] ?_ (by simp; omega)
        constructor <;> simp [hwj, htj, List.filter_append, hno]
      | false =>
        have hno : noR l q = true := by simp [noR, hg]
        have hlen := foldK_len (missP (l.take k) l ++ ((refsK x).take kj).filter (noR l)) []
        have h1 := missP_len (l.take k) l
        have h2 := List.length_filter_le (noR l) ((refsK x).take kj)
        have h3 : (l.take k).length ≤ 64 := by simp; omega
        have h4 : ((refsK x).take kj).length ≤ 33 := by simp; omega
        rw [List.length_append, List.length_nil] at hlen
        refine CW.callP (there_r l q (by omega)) Tryz.call175 rfl rfl rfl (by first | exact .inl rfl | exact .inr ⟨_, _, rfl, by simp⟩ | exact .inr ⟨_, _, rfl, by simp [*]⟩) rfl (by simp [hg, hrj]) rfl rfl (CW.runOps 9999 400 rfl ?_)
        simp [hg, hrj, Tryz.ntmps152, Tryz.results152]
        refine CW.callP (put_r ((missP (l.take k) l ++ ((refsK x).take kj).filter (noR l)).foldl putK []) q (by omega) (refs_name hmj)) Tryz.call176 rfl rfl rfl (by first | exact .inl rfl | exact .inr ⟨_, _, rfl, by simp⟩ | exact .inr ⟨_, _, rfl, by simp [*]⟩) rfl (by simp) rfl rfl (CW.runOps 9999 400 rfl ?_)
        simp [Tryz.ntmps152, Tryz.results152]
        refine hBj _ ⟨kj + 1, by omega⟩ [] ?_ (by simp; omega)
        constructor <;> simp [hwj, htj, List.filter_append, hno, List.foldl_append]
    · have hklj : kj = ((refsK x)).length := by simp at hj; omega
      subst hklj
      simp only [hj]
      simp [List.take_length, List.drop_length, Tryz.ntmps152, Tryz.results152]
      refine hB _ ⟨k + 1, by omega⟩ [] ?_ (by simp; omega)
      constructor <;> simp [hw, ht, missP_snoc]
  · have hkl : k = (l).length := by simp at h; omega
    subst hkl
    simp only [h]
    simp [List.take_length, List.drop_length, Tryz.ntmps152, Tryz.results152]
    have e : (missP l l).foldl putK [] = missR l := rfl
    first | (exact fin0 (by simp [e]) rfl) | (refine ⟨by decide +kernel, ?_⟩; exact fin0 (by simp [e]) rfl)
end Go.Proofs.YtnmocaniljacpaaGreatDoor
end
section
namespace Go.Proofs.YtnmocaniljacpaaGreatDoor
open Go.AI Go.G
set_option maxRecDepth 20000
theorem tsane_r (l : List Res) (htab : tabE l = 0) (hok : OkRs l) : Ct Tryz.prog 151 [lst (l.map resC)] [] [] (int 0) [] := by
  refine Ct.of_body Tryz.func151 rfl mixed (by rw [Tryz.ntmps151]; simp) (CW.run 9999 400 rfl ?_)
  simp [Tryz.ntmps151, Tryz.results151]
  have h64 := tab_len64 htab
  have h64' : ¬ ((64 : Int) < l.length) := by omega
  have hasc := tabE_asc htab
  simp [h64', Tryz.ntmps151, Tryz.results151]
  refine LoopW.inv mixed (Plain.retC _ _ _ _ _) rfl (ι := {k : Nat // k ≤ (l).length}) (fun k => [(0, lst (l.map resC)), (3, int k.1)]) (fun k => []) 64 (fun k => (l).length - k.1) ⟨0, by omega⟩ [] (by constructor <;> simp) ?_
  rintro ⟨k, hk1⟩ B hB
  refine CW.run 9999 400 rfl ?_
  simp [Tryz.ntmps151, Tryz.results151]
  refine run_br_split (fun h => ?_) (fun h => ?_)
  · have hk : k < (l).length := by simpa using h
    have hr : (l)[k]? = some (l)[k] := List.getElem?_eq_getElem hk
    have hm : (l)[k] ∈ (l) := List.getElem_mem hk
    have ht : (l).take (k + 1) = (l).take k ++ [(l)[k]] := by rw [List.take_add_one, hr]; rfl
    have hd : (l).drop k = (l)[k] :: (l).drop (k + 1) := List.drop_eq_getElem_cons hk
    have hw : IntKind.wrap .i64 ((k : Int) + 1) = k + 1 := wrap_i64 (by omega) (by omega)
    obtain ⟨x, hx⟩ : ∃ x0, (l)[k] = x0 := ⟨_, rfl⟩
    rw [hx] at hr hm ht hd
    simp only [h]
    simp [hr, hw, Tryz.ntmps151, Tryz.results151]
    have hs := tab_all htab hm
    refine CW.callP (sane_r x) Tryz.call172 rfl rfl rfl (by first | exact .inl rfl | exact .inr ⟨_, _, rfl, by simp⟩ | exact .inr ⟨_, _, rfl, by simp [*]⟩) rfl (by simp [hs]) rfl rfl (CW.runOps 9999 400 rfl ?_)
    simp [hs, Tryz.ntmps151, Tryz.results151]
    refine hB _ ⟨k + 1, by omega⟩ [] ?_ (by simp; omega)
    constructor <;> simp [hw, ht]
  · have hkl : k = (l).length := by simp at h; omega
    subst hkl
    simp only [h]
    simp [List.take_length, List.drop_length, Tryz.ntmps151, Tryz.results151]
    refine LoopW.inv mixed (Plain.retC _ _ _ _ _) rfl (ι := {n : Nat // 1 ≤ n ∧ n ≤ max 1 l.length}) (fun k => [(0, lst (l.map resC)), (5, int k.1)]) (fun k => []) 64 (fun k => l.length - k.1) ⟨1, by omega, by omega⟩ [] (by constructor <;> simp) ?_
    rintro ⟨n, hn1, hn2⟩ B2 hB2
    refine CW.run 9999 400 rfl ?_
    simp [Tryz.ntmps151, Tryz.results151]
    refine run_br_split (fun hb => ?_) (fun hb => ?_) <;> simp only [hb] <;> simp [Tryz.ntmps151, Tryz.results151] <;> (try simp only [Bool.not_eq_true', Bool.not_eq_false', decide_eq_true_eq, decide_eq_false_iff_not] at hb)
    · have hlt : n < l.length := by omega
      have hlt' : n - 1 < l.length := by omega
      obtain ⟨x, hx⟩ : ∃ x, l[n]? = some x := ⟨_, List.getElem?_eq_getElem hlt⟩
      obtain ⟨y, hy⟩ : ∃ y, l[n - 1]? = some y := ⟨_, List.getElem?_eq_getElem hlt'⟩
      have hxe : l[n] = x := (List.getElem?_eq_some_iff.1 hx).2
      have hye : l[n - 1] = y := (List.getElem?_eq_some_iff.1 hy).2
      have hc : cmpK y.key x.key = -1 := asc_no hasc hy (by rw [show n - 1 + 1 = n by omega]; exact hx)
      have hw1 : IntKind.wrap .i64 ((n : Int) - 1) = ((n - 1 : Nat) : Int) := by rw [wrap_i64 (by omega) (by omega)]; omega
      have hw2 : IntKind.wrap .i64 ((n : Int) + 1) = ((n + 1 : Nat) : Int) := by rw [wrap_i64 (by omega) (by omega)]; omega
      have hge : (1 : Int) ≤ n := by omega
      simp [hw1, hlt, hlt', hxe, hye, Tryz.ntmps151, Tryz.results151]
      refine CW.callP (key_r y) Tryz.call110 rfl rfl rfl (by first | exact .inl rfl | exact .inr ⟨_, _, rfl, by simp⟩ | exact .inr ⟨_, _, rfl, by simp [*]⟩) rfl (by simp) rfl rfl (CW.runOps 9999 400 rfl ?_)
      simp [Tryz.ntmps151, Tryz.results151]
      simp [hxe, hlt, Tryz.ntmps151, Tryz.results151]
      refine CW.callP (key_r x) Tryz.call110 rfl rfl rfl (by first | exact .inl rfl | exact .inr ⟨_, _, rfl, by simp⟩ | exact .inr ⟨_, _, rfl, by simp [*]⟩) rfl (by simp) rfl rfl (CW.runOps 9999 400 rfl ?_)
      simp [Tryz.ntmps151, Tryz.results151]
      refine CW.callP (cmpK_r y.key x.key (.inl (hok.all y (List.mem_of_getElem? hy)).name)) Tryz.call173 rfl rfl rfl (by first | exact .inl rfl | exact .inr ⟨_, _, rfl, by simp⟩ | exact .inr ⟨_, _, rfl, by simp [*]⟩) rfl (by simp [hc]) rfl rfl (CW.runOps 9999 400 rfl ?_)
      simp [hc, Tryz.ntmps151, Tryz.results151]
      refine ⟨by decide +kernel, ?_⟩
      refine hB2 _ ⟨n + 1, by omega, by omega⟩ [] ?_ (by simp; omega)
      constructor <;> simp [hw2]
    · refine LoopW.inv mixed (Plain.retC _ _ _ _ _) rfl (ι := {k : Nat // k ≤ (l).length}) (fun k => [(0, lst (l.map resC)), (6, int k.1)]) (fun k => []) 64 (fun k => (l).length - k.1) ⟨0, by omega⟩ [] (by constructor <;> simp) ?_
      rintro ⟨k, hk1⟩ B hB
      refine CW.run 9999 400 rfl ?_
      simp [Tryz.ntmps151, Tryz.results151]
      refine run_br_split (fun h => ?_) (fun h => ?_)
      · have hk : k < (l).length := by simpa using h
        have hr : (l)[k]? = some (l)[k] := List.getElem?_eq_getElem hk
        have hm : (l)[k] ∈ (l) := List.getElem_mem hk
        have ht : (l).take (k + 1) = (l).take k ++ [(l)[k]] := by rw [List.take_add_one, hr]; rfl
        have hd : (l).drop k = (l)[k] :: (l).drop (k + 1) := List.drop_eq_getElem_cons hk
        have hw : IntKind.wrap .i64 ((k : Int) + 1) = k + 1 := wrap_i64 (by omega) (by omega)
        obtain ⟨x, hx⟩ : ∃ x0, (l)[k] = x0 := ⟨_, rfl⟩
        rw [hx] at hr hm ht hd
        simp only [h]
        simp [hr, hw, Tryz.ntmps151, Tryz.results151]
        refine LoopW.inv mixed (Plain.retC _ _ _ _ _) rfl (ι := {n : Nat // n ≤ k}) (fun kj => [(0, lst (l.map resC)), (6, int k), (7, int kj.1)]) (fun kj => []) 64 (fun kj => k - kj.1) ⟨0, by omega⟩ [] (by constructor <;> simp) ?_
        rintro ⟨n, hn⟩ Bj hBj
        refine CW.run 9999 400 rfl ?_
        simp [Tryz.ntmps151, Tryz.results151]
        refine run_br_split (fun hb2 => ?_) (fun hb2 => ?_) <;> simp only [hb2] <;> simp [Tryz.ntmps151, Tryz.results151] <;> (try simp only [Bool.not_eq_true', Bool.not_eq_false', decide_eq_true_eq, decide_eq_false_iff_not] at hb2)
        · have hlt : n < l.length := by omega
          obtain ⟨y, hy⟩ : ∃ y, l[n]? = some y := ⟨_, List.getElem?_eq_getElem hlt⟩
          have hye : l[n] = y := (List.getElem?_eq_some_iff.1 hy).2
          have hw2 : IntKind.wrap .i64 ((n : Int) + 1) = ((n + 1 : Nat) : Int) := by rw [wrap_i64 (by omega) (by omega)]; omega
          have hne := fun a b => ports_ne htab hr hy (by omega) a b
          by_cases c1 : x.kind = 0
          · by_cases c2 : y.kind = 0
            · have c3 := hne c1 c2
              simp [hlt, hye, hx, hk, c1, c2, c3, Tryz.ntmps151, Tryz.results151]
              refine ⟨by decide +kernel, ?_⟩
              refine hBj _ ⟨n + 1, by omega⟩ [] ?_ (by simp; omega)
              constructor <;> simp [hw2]
            · simp [hlt, hye, hx, hk, c1, c2, Tryz.ntmps151, Tryz.results151]
              refine ⟨by decide +kernel, ?_⟩
              refine hBj _ ⟨n + 1, by omega⟩ [] ?_ (by simp; omega)
              constructor <;> simp [hw2]
          · simp [hlt, hye, hx, hk, c1, Tryz.ntmps151, Tryz.results151]
            refine ⟨by decide +kernel, ?_⟩
            refine hBj _ ⟨n + 1, by omega⟩ [] ?_ (by simp; omega)
            constructor <;> simp [hw2]
        · refine hB _ ⟨k + 1, by omega⟩ [] ?_ (by simp; omega)
          constructor <;> simp [hw, ht]
      · have hkl : k = (l).length := by simp at h; omega
        subst hkl
        simp only [h]
        simp [List.take_length, List.drop_length, Tryz.ntmps151, Tryz.results151]
        first | (exact fin0 (by simp) rfl) | (refine ⟨by decide +kernel, ?_⟩; exact fin0 (by simp) rfl)
theorem hasO_r (l : List Key) (k_ : Key) (hl : l.length ≤ 9223372036854775807) : Ct Tryz.prog 189 [.own 0, st (keyC k_)] [(0, .grow 2 (l.map keyC) 45)] [] (bool (decide (k_ ∈ l))) [] := by
  refine Ct.of_body Tryz.func189 rfl mixed (by rw [Tryz.ntmps189]; simp) (CW.run 9999 400 rfl ?_)
  simp [Tryz.ntmps189, Tryz.results189]
  refine LoopW.inv mixed (Plain.retC _ _ _ _ _) rfl (ι := {k : Nat // k ≤ (l).length ∧ k_ ∉ l.take k}) (fun k => [(0, .own 0), (3, .ptr 64 0), (5, int k.1)]) (fun k => [(0, .grow 2 (l.map keyC) 45), (64, .cells ((keyC k_).map .d) 45)]) 65 (fun k => (l).length - k.1) ⟨0, by omega, by simp⟩ [] (by constructor <;> simp) ?_
  rintro ⟨k, hk1, hi⟩ B hB
  refine CW.run 9999 400 rfl ?_
  simp [Tryz.ntmps189, Tryz.results189]
  refine run_br_split (fun h => ?_) (fun h => ?_)
  · have hk : k < (l).length := by simpa using h
    have hr : (l)[k]? = some (l)[k] := List.getElem?_eq_getElem hk
    have hm : (l)[k] ∈ (l) := List.getElem_mem hk
    have ht : (l).take (k + 1) = (l).take k ++ [(l)[k]] := by rw [List.take_add_one, hr]; rfl
    have hd : (l).drop k = (l)[k] :: (l).drop (k + 1) := List.drop_eq_getElem_cons hk
    have hw : IntKind.wrap .i64 ((k : Int) + 1) = k + 1 := wrap_i64 (by omega) (by omega)
    obtain ⟨x, hx⟩ : ∃ x0, (l)[k] = x0 := ⟨_, rfl⟩
    rw [hx] at hr hm ht hd
    simp only [h]
    simp [hr, hw, hk, hx, Tryz.ntmps189, Tryz.results189]
    rw [key_eq]
    refine ⟨by decide +kernel, ?_⟩
    refine run_br_split (fun h1 => ?_) (fun h1 => ?_) <;> simp only [h1] <;> simp [hr, Tryz.ntmps189, Tryz.results189] <;> (try simp only [Bool.not_eq_true', Bool.not_eq_false', decide_eq_true_eq, decide_eq_false_iff_not] at h1)
    · have e : k_ ∈ l := by rw [← h1]; exact hm
      first | (refine ⟨[], ?_, ?_, ?_, ?_, ?_, ?_, ?_⟩ <;> simp [nmF, inB, e]; done) | (refine ⟨by decide +kernel, ?_⟩; refine ⟨[], ?_, ?_, ?_, ?_, ?_, ?_, ?_⟩ <;> simp [nmF, inB, e])
    · refine hB _ ⟨k + 1, by omega, by rw [ht]; simp [hi]; exact fun e => h1 e.symm⟩ [] ?_ (by simp; omega)
      constructor <;> simp [hw]
  · have hkl : k = (l).length := by simp at h; omega
    subst hkl
    simp only [h]
    simp [List.take_length, List.drop_length, Tryz.ntmps189, Tryz.results189]
    rw [List.take_length] at hi
    first | (refine ⟨[], ?_, ?_, ?_, ?_, ?_, ?_, ?_⟩ <;> simp [nmF, inB, hi]; done) | (refine ⟨by decide +kernel, ?_⟩; refine ⟨[], ?_, ?_, ?_, ?_, ?_, ?_, ?_⟩ <;> simp [nmF, inB, hi])
theorem reachN_take (l : List Res) (n : Nat) {k : Nat} {x : Res} (ht : l.take (k + 1) = l.take k ++ [x]) : (l.take (k + 1)).foldl (rowR l) (reachN l n) = rowR l ((l.take k).foldl (rowR l) (reachN l n)) x := by
  rw [ht, List.foldl_append]; rfl
theorem reached_r (l : List Res) (hl : l.length ≤ 64) : Ct Tryz.prog 188 [lst (l.map resC)] [] [] (lst ((reachN l 4).map keyC)) [] := by
  refine Ct.of_body Tryz.func188 rfl mixed (by rw [Tryz.ntmps188]; simp) (CW.run 9999 400 rfl ?_)
  simp [Tryz.ntmps188, Tryz.results188]
  have r0 : rootsR [] = [] := rfl
  refine LoopW.nilOwn 3 2 45 rfl ?_
  refine LoopW.inv mixed (Plain.retC _ _ _ _ _) rfl (ι := {k : Nat // k ≤ (l).length}) (fun k => [(0, lst (l.map resC)), (3, .own 64), (4, int k.1)]) (fun k => [(64, .grow 2 ((rootsR (l.take k.1)).map keyC) 45)]) 65 (fun k => (l).length - k.1) ⟨0, by omega⟩ [] (by constructor <;> simp [r0]) ?_
  rintro ⟨k, hk1⟩ B hB
  refine CW.run 9999 400 rfl ?_
  simp [r0, Tryz.ntmps188, Tryz.results188]
  refine run_br_split (fun h => ?_) (fun h => ?_)
  · have hk : k < (l).length := by simpa using h
    have hr : (l)[k]? = some (l)[k] := List.getElem?_eq_getElem hk
    have hm : (l)[k] ∈ (l) := List.getElem_mem hk
    have ht : (l).take (k + 1) = (l).take k ++ [(l)[k]] := by rw [List.take_add_one, hr]; rfl
    have hd : (l).drop k = (l)[k] :: (l).drop (k + 1) := List.drop_eq_getElem_cons hk
    have hw : IntKind.wrap .i64 ((k : Int) + 1) = k + 1 := wrap_i64 (by omega) (by omega)
    obtain ⟨x, hx⟩ : ∃ x0, (l)[k] = x0 := ⟨_, rfl⟩
    rw [hx] at hr hm ht hd
    simp only [h]
    simp [hr, hw, Tryz.ntmps188, Tryz.results188]
    have hrl := roots_len (l.take k)
    have hrk : (l.take k).length ≤ 64 := by simp; omega
    refine run_br_split (fun h1 => ?_) (fun h1 => ?_) <;> simp only [h1] <;> simp [hr, Tryz.ntmps188, Tryz.results188] <;> (try simp only [Bool.not_eq_true', Bool.not_eq_false', decide_eq_true_eq, decide_eq_false_iff_not] at h1)
    · refine CW.callP (key_r x) Tryz.call110 rfl rfl rfl (by first | exact .inl rfl | exact .inr ⟨_, _, rfl, by simp⟩ | exact .inr ⟨_, _, rfl, by simp [*]⟩) rfl (by simp [hr]) rfl rfl (CW.runOps 9999 400 rfl ?_)
      simp [hr, Tryz.ntmps188, Tryz.results188]
      refine ⟨by omega, ?_⟩
      refine hB _ ⟨k + 1, by omega⟩ [] ?_ (by simp; omega)
      constructor <;> simp [hw, ht, rootsR_snoc, h1]
    · refine hB _ ⟨k + 1, by omega⟩ [] ?_ (by simp; omega)
      constructor <;> simp [hw, ht, rootsR_snoc, h1]
  · have hkl : k = (l).length := by simp at h; omega
    subst hkl
    simp only [h]
    simp [List.take_length, List.drop_length, Tryz.ntmps188, Tryz.results188]
    have e0 : rootsR l = reachN l 0 := rfl
    rw [e0]
    refine LoopW.inv mixed (Plain.retC _ _ _ _ _) rfl (ι := {n : Nat // n ≤ 4}) (fun k => [(0, lst (l.map resC)), (3, .own 64), (5, int k.1)]) (fun k => [(64, .grow 2 ((reachN l k.1).map keyC) 45)]) 65 (fun k => 4 - k.1) ⟨0, by omega⟩ [] (by constructor <;> simp) ?_
    rintro ⟨n, hn⟩ B2 hB2
    have hNl := reachN_len l n
    have hNb : 33 * l.length * n ≤ 33 * 64 * 4 := Nat.mul_le_mul (by omega) hn
    refine CW.run 9999 400 rfl ?_
    simp [Tryz.ntmps188, Tryz.results188]
    refine run_br_split (fun hb => ?_) (fun hb => ?_) <;> simp only [hb] <;> simp [Tryz.ntmps188, Tryz.results188] <;> (try simp only [Bool.not_eq_true', Bool.not_eq_false', decide_eq_true_eq, decide_eq_false_iff_not] at hb)
    · refine LoopW.inv mixed (Plain.retC _ _ _ _ _) rfl (ι := {ki : Nat // ki ≤ (l).length}) (fun ki => [(0, lst (l.map resC)), (3, .own 64), (5, int n), (6, int ki.1)]) (fun ki => [(64, .grow 2 (((l.take ki.1).foldl (rowR l) (reachN l n)).map keyC) 45)]) 65 (fun ki => (l).length - ki.1) ⟨0, by omega⟩ [] (by constructor <;> simp) ?_
      rintro ⟨ki, hk1i⟩ Bi hBi
      refine CW.run 9999 400 rfl ?_
      simp [Tryz.ntmps188, Tryz.results188]
      refine run_br_split (fun hi => ?_) (fun hi => ?_)
      · have hki : ki < (l).length := by simpa using hi
        have hri : (l)[ki]? = some (l)[ki] := List.getElem?_eq_getElem hki
        have hmi : (l)[ki] ∈ (l) := List.getElem_mem hki
        have hti : (l).take (ki + 1) = (l).take ki ++ [(l)[ki]] := by rw [List.take_add_one, hri]; rfl
        have hdi : (l).drop ki = (l)[ki] :: (l).drop (ki + 1) := List.drop_eq_getElem_cons hki
        have hwi : IntKind.wrap .i64 ((ki : Int) + 1) = ki + 1 := wrap_i64 (by omega) (by omega)
        obtain ⟨x, hxi⟩ : ∃ x0, (l)[ki] = x0 := ⟨_, rfl⟩
        rw [hxi] at hri hmi hti hdi
        simp only [hi]
        simp [hri, hwi, Tryz.ntmps188, Tryz.results188]
        refine CW.callP (refs_r x) Tryz.call174 rfl rfl rfl (by first | exact .inl rfl | exact .inr ⟨_, _, rfl, by simp⟩ | exact .inr ⟨_, _, rfl, by simp [*]⟩) rfl (by simp) rfl rfl (CW.runOps 9999 400 rfl ?_)
        simp [Tryz.ntmps188, Tryz.results188]
        have hrl := refs_le33 x
        have hO := foldR_len l (l.take ki) (reachN l n)
        have hOk : (l.take ki).length ≤ 64 := by simp; omega
        obtain ⟨O, hOe⟩ : ∃ O, (l.take ki).foldl (rowR l) (reachN l n) = O := ⟨_, rfl⟩
        have hstep : ∀ y, rowR l O x = y → (l.take (ki + 1)).foldl (rowR l) (reachN l n) = y := fun y hy => by rw [reachN_take l n hti, hOe]; exact hy
        rw [hOe] at hO ⊢
        by_cases hm : x.key ∈ O
        · have hrow : rowR l O x = (refsK x).foldl (stepR l) O := by unfold rowR; rw [if_pos hm]
          refine LoopW.inv mixed (Plain.retC _ _ _ _ _) rfl (ι := {j : Nat // j ≤ (refsK x).length}) (fun kj => [(0, lst (l.map resC)), (3, .own 64), (5, int n), (6, int ki), (7, lst ((refsK x).map keyC)), (8, int kj.1)]) (fun kj => [(64, .grow 2 ((((refsK x).take kj.1).foldl (stepR l) O).map keyC) 45)]) 65 (fun kj => (refsK x).length - kj.1) ⟨0, Nat.zero_le _⟩ [] (by constructor <;> simp) ?_
          rintro ⟨j, hj⟩ Bj hBj
          have hFl := foldS_len l ((refsK x).take j) O
          have hFj : ((refsK x).take j).length ≤ 33 := by simp; omega
          have hmem : x.key ∈ ((refsK x).take j).foldl (stepR l) O := foldS_sub l _ O _ hm
          refine CW.run 9999 400 rfl ?_
          simp [Tryz.ntmps188, Tryz.results188]
          refine run_gd_split (fun hb2 => ?_) (fun hb2 => ?_) <;> simp only [hb2] <;> simp [hri, Tryz.ntmps188, Tryz.results188] <;> (try simp only [Bool.not_eq_true', Bool.not_eq_false', decide_eq_true_eq, decide_eq_false_iff_not] at hb2)
          · have hlt : j < (refsK x).length := by omega
            obtain ⟨q, hq⟩ : ∃ q, (refsK x)[j]? = some q := ⟨_, List.getElem?_eq_getElem hlt⟩
            have hqe : (refsK x)[j] = q := (List.getElem?_eq_some_iff.1 hq).2
            have htq : (refsK x).take (j + 1) = (refsK x).take j ++ [q] := by rw [List.take_add_one, hq]; rfl
            have hwj : IntKind.wrap .i64 ((j : Int) + 1) = j + 1 := wrap_i64 (by omega) (by omega)
            have hnext : ((refsK x).take (j + 1)).foldl (stepR l) O = stepR l (((refsK x).take j).foldl (stepR l) O) q := by rw [htq, List.foldl_append]; rfl
            obtain ⟨S, hS⟩ : ∃ S, ((refsK x).take j).foldl (stepR l) O = S := ⟨_, rfl⟩
            rw [hS] at hFl hmem hnext ⊢
            refine CW.callP (key_r x) Tryz.call110 rfl rfl rfl (by first | exact .inl rfl | exact .inr ⟨_, _, rfl, by simp⟩ | exact .inr ⟨_, _, rfl, by simp [*]⟩) rfl (by simp) rfl rfl (CW.runOps 9999 400 rfl ?_)
            simp [Tryz.ntmps188, Tryz.results188]
            refine CW.callC [64] (hasO_r S x.key (by omega)) Tryz.call189 rfl rfl rfl (by first | exact .inl rfl | exact .inr ⟨_, _, rfl, by simp⟩ | exact .inr ⟨_, _, rfl, by simp [*]⟩) rfl (by simp [hmem]) (by constructor <;> simp [nmOk]) (by simp [hmem]) (CW.runOps 9999 400 rfl ?_)
            simp [hmem, Tryz.ntmps188, Tryz.results188]
            simp [hlt, hqe, Tryz.ntmps188, Tryz.results188]
            refine CW.callP (there_r l q (by omega)) Tryz.call175 rfl rfl rfl (by first | exact .inl rfl | exact .inr ⟨_, _, rfl, by simp⟩ | exact .inr ⟨_, _, rfl, by simp [*]⟩) rfl (by simp) rfl rfl (CW.runOps 9999 400 rfl ?_)
            simp [Tryz.ntmps188, Tryz.results188]
            cases hg : (getR l q).isSome with
            | false =>
              have hst : stepR l S q = S := by unfold stepR; rw [if_neg (by simp [hg])]
              rw [hst] at hnext
              simp [Tryz.ntmps188, Tryz.results188]
              refine hBj _ ⟨j + 1, by omega⟩ [] ?_ (by simp; omega)
              constructor <;> simp [hwj, hnext]
            | true =>
              simp [hlt, hqe, Tryz.ntmps188, Tryz.results188]
              refine CW.callC [64] (hasO_r S q (by omega)) Tryz.call189 rfl rfl rfl (by first | exact .inl rfl | exact .inr ⟨_, _, rfl, by simp⟩ | exact .inr ⟨_, _, rfl, by simp [*]⟩) rfl (by simp) (by constructor <;> simp [nmOk]) (by simp) (CW.runOps 9999 400 rfl ?_)
              simp [Tryz.ntmps188, Tryz.results188]
              by_cases hqS : q ∈ S
              · have hst : stepR l S q = S := by unfold stepR; rw [if_neg (by simp [hqS])]
                rw [hst] at hnext
                simp [hqS, Tryz.ntmps188, Tryz.results188]
                refine hBj _ ⟨j + 1, by omega⟩ [] ?_ (by simp; omega)
                constructor <;> simp [hwj, hnext]
              · have hst : stepR l S q = S ++ [q] := by unfold stepR; rw [if_pos ⟨hg, hqS⟩]
                rw [hst] at hnext
                simp [hqS, hlt, hqe, Tryz.ntmps188, Tryz.results188]
                refine ⟨by omega, ?_⟩
                refine hBj _ ⟨j + 1, by omega⟩ [] ?_ (by simp; omega)
                constructor <;> simp [hwj, hnext]
          · have hje : j = (refsK x).length := by omega
            subst hje
            have hn2 := hstep _ hrow
            simp [Tryz.ntmps188, Tryz.results188]
            refine hBi _ ⟨ki + 1, by omega⟩ [] ?_ (by simp; omega)
            constructor <;> simp [hwi, hn2]
        · have hrow : rowR l O x = O := by unfold rowR; rw [if_neg hm]
          have hn2 := hstep _ hrow
          refine LoopW.unroll mixed (Plain.retC _ _ _ _ _) rfl ?_
          refine CW.run 9999 400 rfl ?_
          simp [hri, Tryz.ntmps188, Tryz.results188]
          refine run_gd_split (fun hb2 => ?_) (fun hb2 => ?_) <;> simp only [hb2] <;> simp [hri, Tryz.ntmps188, Tryz.results188] <;> (try simp only [Bool.not_eq_true', Bool.not_eq_false', decide_eq_true_eq, decide_eq_false_iff_not] at hb2)
          · refine CW.callP (key_r x) Tryz.call110 rfl rfl rfl (by first | exact .inl rfl | exact .inr ⟨_, _, rfl, by simp⟩ | exact .inr ⟨_, _, rfl, by simp [*]⟩) rfl (by simp) rfl rfl (CW.runOps 9999 400 rfl ?_)
            simp [Tryz.ntmps188, Tryz.results188]
            refine CW.callC [64] (hasO_r O x.key (by omega)) Tryz.call189 rfl rfl rfl (by first | exact .inl rfl | exact .inr ⟨_, _, rfl, by simp⟩ | exact .inr ⟨_, _, rfl, by simp [*]⟩) rfl (by simp [hm]) (by constructor <;> simp [nmOk]) (by simp [hm]) (CW.runOps 9999 400 rfl ?_)
            simp [hm, Tryz.ntmps188, Tryz.results188]
            refine hBi _ ⟨ki + 1, by omega⟩ [] ?_ (by simp; omega)
            constructor <;> simp [hwi, hn2]
          · refine hBi _ ⟨ki + 1, by omega⟩ [] ?_ (by simp; omega)
            constructor <;> simp [hwi, hn2]
      · have hkli : ki = (l).length := by simp at hi; omega
        subst hkli
        simp only [hi]
        simp [List.take_length, List.drop_length, Tryz.ntmps188, Tryz.results188]
        have hw2 : IntKind.wrap .i64 ((n : Int) + 1) = ((n + 1 : Nat) : Int) := by rw [wrap_i64 (by omega) (by omega)]; omega
        have e1 : l.foldl (rowR l) (reachN l n) = reachN l (n + 1) := rfl
        refine hB2 _ ⟨n + 1, by omega⟩ [] ?_ (by simp; omega)
        constructor <;> simp [hw2, e1]
    · have hn4 : n = 4 := by omega
      subst hn4
      first | (exact fin0 (by simp) rfl) | (refine ⟨by decide +kernel, ?_⟩; exact fin0 (by simp) rfl)
end Go.Proofs.YtnmocaniljacpaaGreatDoor
end
section
namespace Go.G
open Go.AI
theorem reachQ_snoc {l : List Res} {a : List Res} {x : Res} : (a ++ [x]).filter (fun r => decide (r.key ∈ reachN l 4)) = a.filter (fun r => decide (r.key ∈ reachN l 4)) ++ (if x.key ∈ reachN l 4 then [x] else []) := by
  by_cases h : x.key ∈ reachN l 4 <;> simp [List.filter_append, h]
theorem diffA_snoc (a : List Res) (b : List Res) (x : Res) : diffA a (b ++ [x]) = diffA a b ++ (if getR a x.key = some x then [] else [x]) := by
  by_cases h : getR a x.key = some x <;> simp [diffA, List.filter_append, h]
theorem diffG_snoc (a : List Res) (b : List Res) (x : Res) : diffG (a ++ [x]) b = diffG a b ++ (if (getR b x.key).isSome then [] else [x.key]) := by
  cases h : getR b x.key <;> simp [diffG, List.filter_append, h]
@[simp] theorem diffA_nil (a : List Res) : diffA a [] = [] := rfl
@[simp] theorem diffG_nil (b : List Res) : diffG [] b = [] := rfl
theorem stampR_snoc (now a : List Res) (x : Res) (v : Int) : stampR now (a ++ [x]) v = stampR now a v ++ [stamp1 now v x] := by simp [stampR_map]
@[simp] theorem stampR_nil (now : List Res) (v : Int) : stampR now [] v = [] := rfl
theorem stampR_len (now a : List Res) (v : Int) : (stampR now a v).length = a.length := by simp [stampR]
end Go.G
namespace Go.Proofs.YtnmocaniljacpaaGreatDoor
open Go.AI Go.G
set_option maxRecDepth 20000
theorem reach_r (l : List Res) (hl : l.length ≤ 64) : Ct Tryz.prog 177 [lst (l.map resC)] [] [] (lst ((reachQ l).map resC)) [] := by
  refine Ct.of_body Tryz.func177 rfl mixed (by rw [Tryz.ntmps177]; simp) (CW.run 9999 400 rfl ?_)
  simp [Tryz.ntmps177, Tryz.results177]
  have hN := reachN_len l 4
  refine CW.callP (reached_r l hl) Tryz.call188 rfl rfl rfl (by first | exact .inl rfl | exact .inr ⟨_, _, rfl, by simp⟩ | exact .inr ⟨_, _, rfl, by simp [*]⟩) rfl (by simp) rfl rfl (CW.runOps 9999 400 rfl ?_)
  simp [Tryz.ntmps177, Tryz.results177]
  refine LoopW.nilOwn 4 7 51 rfl ?_
  refine LoopW.inv mixed (Plain.retC _ _ _ _ _) rfl (ι := {k : Nat // k ≤ (l).length}) (fun k => [(0, lst (l.map resC)), (3, lst ((reachN l 4).map keyC)), (4, .own 64), (5, int k.1)]) (fun k => [(64, .grow 7 (((l.take k.1).filter fun r => decide (r.key ∈ reachN l 4)).map resC) 51)]) 65 (fun k => (l).length - k.1) ⟨0, by omega⟩ [] (by constructor <;> simp) ?_
  rintro ⟨k, hk1⟩ B hB
  refine CW.run 9999 400 rfl ?_
  simp [Tryz.ntmps177, Tryz.results177]
  refine run_br_split (fun h => ?_) (fun h => ?_)
  · have hk : k < (l).length := by simpa using h
    have hr : (l)[k]? = some (l)[k] := List.getElem?_eq_getElem hk
    have hm : (l)[k] ∈ (l) := List.getElem_mem hk
    have ht : (l).take (k + 1) = (l).take k ++ [(l)[k]] := by rw [List.take_add_one, hr]; rfl
    have hd : (l).drop k = (l)[k] :: (l).drop (k + 1) := List.drop_eq_getElem_cons hk
    have hw : IntKind.wrap .i64 ((k : Int) + 1) = k + 1 := wrap_i64 (by omega) (by omega)
    obtain ⟨x, hx⟩ : ∃ x0, (l)[k] = x0 := ⟨_, rfl⟩
    rw [hx] at hr hm ht hd
    simp only [h]
    simp [hr, hw, Tryz.ntmps177, Tryz.results177]
    have hf := List.length_filter_le (fun r : Res => decide (r.key ∈ reachN l 4)) (l.take k)
    have hrk : (l.take k).length ≤ 64 := by simp; omega
    refine CW.callP (key_r x) Tryz.call110 rfl rfl rfl (by first | exact .inl rfl | exact .inr ⟨_, _, rfl, by simp⟩ | exact .inr ⟨_, _, rfl, by simp [*]⟩) rfl (by simp) rfl rfl (CW.runOps 9999 400 rfl ?_)
    simp [Tryz.ntmps177, Tryz.results177]
    refine CW.callP (has_r (reachN l 4) x.key (by omega)) Tryz.call189 rfl rfl rfl (by first | exact .inl rfl | exact .inr ⟨_, _, rfl, by simp⟩ | exact .inr ⟨_, _, rfl, by simp [*]⟩) rfl (by simp) rfl rfl (CW.runOps 9999 400 rfl ?_)
    simp [Tryz.ntmps177, Tryz.results177]
    by_cases h1 : x.key ∈ reachN l 4
    · simp [h1, hr, Tryz.ntmps177, Tryz.results177]
      refine ⟨by omega, ?_⟩
      refine hB _ ⟨k + 1, by omega⟩ [] ?_ (by simp; omega)
      constructor <;> simp [hw, ht, reachQ_snoc, h1]
    · simp [h1, hr, Tryz.ntmps177, Tryz.results177]
      refine hB _ ⟨k + 1, by omega⟩ [] ?_ (by simp; omega)
      constructor <;> simp [hw, ht, reachQ_snoc, h1]
  · have hkl : k = (l).length := by simp at h; omega
    subst hkl
    simp only [h]
    simp [List.take_length, List.drop_length, Tryz.ntmps177, Tryz.results177]
    have e : l.filter (fun r => decide (r.key ∈ reachN l 4)) = reachQ l := rfl
    first | (exact fin0 (by simp [e]) rfl) | (refine ⟨by decide +kernel, ?_⟩; exact fin0 (by simp [e]) rfl)
theorem served_r (l : List Res) (htab : tabE l = 0) (hmiss : (missR l).length = 0) (hserv : servedE l = 0) : Ct Tryz.prog 153 [lst (l.map resC)] [] [] (int 0) [] := by
  refine Ct.of_body Tryz.func153 rfl mixed (by rw [Tryz.ntmps153]; simp) (CW.run 9999 400 rfl ?_)
  simp [Tryz.ntmps153, Tryz.results153]
  have h64 := tab_len64 htab
  have hasc := tabE_asc htab
  have hQ : (reachQ l).length ≤ 64 := Nat.le_trans (List.length_filter_le _ _) h64
  refine CW.callP (reach_r l h64) Tryz.call177 rfl rfl rfl (by first | exact .inl rfl | exact .inr ⟨_, _, rfl, by simp⟩ | exact .inr ⟨_, _, rfl, by simp [*]⟩) rfl (by simp) rfl rfl (CW.runOps 9999 400 rfl ?_)
  simp [Tryz.ntmps153, Tryz.results153]
  refine LoopW.inv mixed (Plain.retC _ _ _ _ _) rfl (ι := {k : Nat // k ≤ ((reachQ l)).length}) (fun k => [(0, lst (l.map resC)), (3, lst ((reachQ l).map resC)), (4, int k.1)]) (fun k => []) 64 (fun k => ((reachQ l)).length - k.1) ⟨0, by omega⟩ [] (by constructor <;> simp) ?_
  rintro ⟨k, hk1⟩ B hB
  refine CW.run 9999 400 rfl ?_
  simp [Tryz.ntmps153, Tryz.results153]
  refine run_br_split (fun h => ?_) (fun h => ?_)
  · have hk : k < ((reachQ l)).length := by simpa using h
    have hr : ((reachQ l))[k]? = some ((reachQ l))[k] := List.getElem?_eq_getElem hk
    have hm : ((reachQ l))[k] ∈ ((reachQ l)) := List.getElem_mem hk
    have ht : ((reachQ l)).take (k + 1) = ((reachQ l)).take k ++ [((reachQ l))[k]] := by rw [List.take_add_one, hr]; rfl
    have hd : ((reachQ l)).drop k = ((reachQ l))[k] :: ((reachQ l)).drop (k + 1) := List.drop_eq_getElem_cons hk
    have hw : IntKind.wrap .i64 ((k : Int) + 1) = k + 1 := wrap_i64 (by omega) (by omega)
    obtain ⟨x, hx⟩ : ∃ x0, ((reachQ l))[k] = x0 := ⟨_, rfl⟩
    rw [hx] at hr hm ht hd
    simp only [h]
    simp [hr, hw, Tryz.ntmps153, Tryz.results153]
    have hxl : x ∈ l := (List.mem_filter.1 hm).1
    refine CW.callP (refs_r x) Tryz.call174 rfl rfl rfl (by first | exact .inl rfl | exact .inr ⟨_, _, rfl, by simp⟩ | exact .inr ⟨_, _, rfl, by simp [*]⟩) rfl (by simp) rfl rfl (CW.runOps 9999 400 rfl ?_)
    simp [Tryz.ntmps153, Tryz.results153]
    have hrl := refs_le33 x
    refine LoopW.inv mixed (Plain.retC _ _ _ _ _) rfl (ι := {kj : Nat // kj ≤ ((refsK x)).length}) (fun kj => [(0, lst (l.map resC)), (3, lst ((reachQ l).map resC)), (4, int k), (5, lst ((refsK x).map keyC)), (6, int kj.1)]) (fun kj => []) 64 (fun kj => ((refsK x)).length - kj.1) ⟨0, by omega⟩ [] (by constructor <;> simp) ?_
    rintro ⟨kj, hk1j⟩ Bj hBj
    refine CW.run 9999 400 rfl ?_
    simp [Tryz.ntmps153, Tryz.results153]
    refine run_br_split (fun hj => ?_) (fun hj => ?_)
    · have hkj : kj < ((refsK x)).length := by simpa using hj
      have hrj : ((refsK x))[kj]? = some ((refsK x))[kj] := List.getElem?_eq_getElem hkj
      have hmj : ((refsK x))[kj] ∈ ((refsK x)) := List.getElem_mem hkj
      have htj : ((refsK x)).take (kj + 1) = ((refsK x)).take kj ++ [((refsK x))[kj]] := by rw [List.take_add_one, hrj]; rfl
      have hdj : ((refsK x)).drop kj = ((refsK x))[kj] :: ((refsK x)).drop (kj + 1) := List.drop_eq_getElem_cons hkj
      have hwj : IntKind.wrap .i64 ((kj : Int) + 1) = kj + 1 := wrap_i64 (by omega) (by omega)
      obtain ⟨q, hxj⟩ : ∃ x0, ((refsK x))[kj] = x0 := ⟨_, rfl⟩
      rw [hxj] at hrj hmj htj hdj
      simp only [hj]
      simp [hrj, hwj, Tryz.ntmps153, Tryz.results153]
      have hg := miss_all hmiss hxl hmj
      refine CW.callP (there_r l q (by omega)) Tryz.call175 rfl rfl rfl (by first | exact .inl rfl | exact .inr ⟨_, _, rfl, by simp⟩ | exact .inr ⟨_, _, rfl, by simp [*]⟩) rfl (by simp [hg]) rfl rfl (CW.runOps 9999 400 rfl ?_)
      simp [hg, Tryz.ntmps153, Tryz.results153]
      refine hBj _ ⟨kj + 1, by omega⟩ [] ?_ (by simp; omega)
      constructor <;> simp [hwj, htj]
    · have hklj : kj = ((refsK x)).length := by simp at hj; omega
      subst hklj
      simp only [hj]
      simp [List.take_length, List.drop_length, Tryz.ntmps153, Tryz.results153]
      refine hB _ ⟨k + 1, by omega⟩ [] ?_ (by simp; omega)
      constructor <;> simp [hw, ht]
  · have hkl : k = ((reachQ l)).length := by simp at h; omega
    subst hkl
    simp only [h]
    simp [List.take_length, List.drop_length, Tryz.ntmps153, Tryz.results153]
    refine LoopW.inv mixed (Plain.retC _ _ _ _ _) rfl (ι := {k : Nat // k ≤ ((reachQ l)).length}) (fun k => [(3, lst ((reachQ l).map resC)), (7, int k.1)]) (fun k => []) 64 (fun k => ((reachQ l)).length - k.1) ⟨0, by omega⟩ [] (by constructor <;> simp) ?_
    rintro ⟨k, hk1⟩ B hB
    refine CW.run 9999 400 rfl ?_
    simp [Tryz.ntmps153, Tryz.results153]
    refine run_br_split (fun h => ?_) (fun h => ?_)
    · have hk : k < ((reachQ l)).length := by simpa using h
      have hr : ((reachQ l))[k]? = some ((reachQ l))[k] := List.getElem?_eq_getElem hk
      have hm : ((reachQ l))[k] ∈ ((reachQ l)) := List.getElem_mem hk
      have ht : ((reachQ l)).take (k + 1) = ((reachQ l)).take k ++ [((reachQ l))[k]] := by rw [List.take_add_one, hr]; rfl
      have hd : ((reachQ l)).drop k = ((reachQ l))[k] :: ((reachQ l)).drop (k + 1) := List.drop_eq_getElem_cons hk
      have hw : IntKind.wrap .i64 ((k : Int) + 1) = k + 1 := wrap_i64 (by omega) (by omega)
      obtain ⟨x, hx⟩ : ∃ x0, ((reachQ l))[k] = x0 := ⟨_, rfl⟩
      rw [hx] at hr hm ht hd
      simp only [h]
      simp [hr, hw, Tryz.ntmps153, Tryz.results153]
      have he := served_end hasc hserv hm
      unfold endless at he
      by_cases c1 : x.kind = 3
      · have c2 : ¬ x.hosts = [] := fun e => by simp [c1, e] at he
        simp [c1, c2, hr, hk, hx, Tryz.ntmps153, Tryz.results153]
        refine hB _ ⟨k + 1, by omega⟩ [] ?_ (by simp; omega)
        constructor <;> simp [hw, ht]
      · simp [c1, hr, hk, hx, Tryz.ntmps153, Tryz.results153]
        refine hB _ ⟨k + 1, by omega⟩ [] ?_ (by simp; omega)
        constructor <;> simp [hw, ht]
    · have hkl : k = ((reachQ l)).length := by simp at h; omega
      subst hkl
      simp only [h]
      simp [List.take_length, List.drop_length, Tryz.ntmps153, Tryz.results153]
      first | (exact fin0 (by simp) rfl) | (refine ⟨by decide +kernel, ?_⟩; exact fin0 (by simp) rfl)
theorem diff_r (a b : List Res) (ha : OkRs a) (hl : a.length ≤ 1000000) (hb : b.length ≤ 1000000) : Ct Tryz.prog 71 [lst (a.map resC), lst (b.map resC)] [] [] (.tup [lst ((diffA a b).map resC), lst ((diffG a b).map keyC)]) [] := by
  refine Ct.of_body Tryz.func71 rfl mixed (by rw [Tryz.ntmps71]; simp) (CW.run 9999 400 rfl ?_)
  simp [Tryz.ntmps71, Tryz.results71]
  refine LoopW.nilOwn 6 7 51 rfl ?_
  refine LoopW.inv mixed (Plain.retC _ _ _ _ _) rfl (ι := {k : Nat // k ≤ (b).length}) (fun k => [(0, lst (a.map resC)), (1, lst (b.map resC)), (6, .own 64), (7, int k.1)]) (fun k => [(64, .grow 7 ((diffA a (b.take k.1)).map resC) 51)]) 65 (fun k => (b).length - k.1) ⟨0, by omega⟩ [] (by constructor <;> simp) ?_
  rintro ⟨k, hk1⟩ B hB
  refine CW.run 9999 400 rfl ?_
  simp [Tryz.ntmps71, Tryz.results71]
  refine run_br_split (fun h => ?_) (fun h => ?_)
  · have hk : k < (b).length := by simpa using h
    have hr : (b)[k]? = some (b)[k] := List.getElem?_eq_getElem hk
    have hm : (b)[k] ∈ (b) := List.getElem_mem hk
    have ht : (b).take (k + 1) = (b).take k ++ [(b)[k]] := by rw [List.take_add_one, hr]; rfl
    have hd : (b).drop k = (b)[k] :: (b).drop (k + 1) := List.drop_eq_getElem_cons hk
    have hw : IntKind.wrap .i64 ((k : Int) + 1) = k + 1 := wrap_i64 (by omega) (by omega)
    obtain ⟨x, hx⟩ : ∃ x0, (b)[k] = x0 := ⟨_, rfl⟩
    rw [hx] at hr hm ht hd
    simp only [h]
    simp [hr, hw, Tryz.ntmps71, Tryz.results71]
    have hf := diffA_len a (b.take k)
    have hrk : (b.take k).length ≤ 1000000 := by simp; omega
    refine CW.callP (key_r x) Tryz.call110 rfl rfl rfl (by first | exact .inl rfl | exact .inr ⟨_, _, rfl, by simp⟩ | exact .inr ⟨_, _, rfl, by simp [*]⟩) rfl (by simp) rfl rfl (CW.runOps 9999 400 rfl ?_)
    simp [Tryz.ntmps71, Tryz.results71]
    cases hg : getR a x.key with
    | none =>
      have hne : ¬ (none = some x) := by simp
      refine CW.callP (get_r a x.key (by omega)) Tryz.call109 rfl rfl rfl (by first | exact .inl rfl | exact .inr ⟨_, _, rfl, by simp⟩ | exact .inr ⟨_, _, rfl, by simp [*]⟩) rfl (by simp [hg, hr, hk, hx]) rfl rfl (CW.runOps 9999 400 rfl ?_)
      simp [hg, hr, hk, hx, Tryz.ntmps71, Tryz.results71]
      refine ⟨by decide +kernel, ?_⟩
      refine ⟨by omega, ?_⟩
      refine hB _ ⟨k + 1, by omega⟩ [] ?_ (by simp; omega)
      constructor <;> simp [hw, ht, diffA_snoc, hg]
    | some o =>
      refine CW.callP (get_r a x.key (by omega)) Tryz.call109 rfl rfl rfl (by first | exact .inl rfl | exact .inr ⟨_, _, rfl, by simp⟩ | exact .inr ⟨_, _, rfl, by simp [*]⟩) rfl (by simp [hg, hr, hk, hx]) rfl rfl (CW.runOps 9999 400 rfl ?_)
      simp [hg, hr, hk, hx, Tryz.ntmps71, Tryz.results71]
      refine CW.callP (same_r o x (ha.all o (getR_mem hg))) Tryz.call46 rfl rfl rfl (by first | exact .inl rfl | exact .inr ⟨_, _, rfl, by simp⟩ | exact .inr ⟨_, _, rfl, by simp [*]⟩) rfl (by simp [hr, hk, hx]) rfl rfl (CW.runOps 9999 400 rfl ?_)
      simp [hr, hk, hx, Tryz.ntmps71, Tryz.results71]
      refine ⟨by decide +kernel, ?_⟩
      by_cases ho : o = x
      · simp [ho, Tryz.ntmps71, Tryz.results71]
        refine hB _ ⟨k + 1, by omega⟩ [] ?_ (by simp; omega)
        constructor <;> simp [hw, ht, diffA_snoc, hg, ho]
      · simp [ho, hr, hk, hx, Tryz.ntmps71, Tryz.results71]
        refine ⟨by omega, ?_⟩
        refine hB _ ⟨k + 1, by omega⟩ [] ?_ (by simp; omega)
        constructor <;> simp [hw, ht, diffA_snoc, hg, ho]
  · have hkl : k = (b).length := by simp at h; omega
    subst hkl
    simp only [h]
    simp [List.take_length, List.drop_length, Tryz.ntmps71, Tryz.results71]
    refine LoopW.nilOwn 10 2 45 rfl ?_
    refine LoopW.inv mixed (Plain.retC _ _ _ _ _) rfl (ι := {k : Nat // k ≤ (a).length}) (fun k => [(0, lst (a.map resC)), (1, lst (b.map resC)), (6, .own 64), (10, .own 65), (11, int k.1)]) (fun k => [(64, .grow 7 ((diffA a b).map resC) 51), (65, .grow 2 ((diffG (a.take k.1) b).map keyC) 45)]) 66 (fun k => (a).length - k.1) ⟨0, by omega⟩ [] (by constructor <;> simp) ?_
    rintro ⟨k, hk1⟩ B hB
    refine CW.run 9999 400 rfl ?_
    simp [Tryz.ntmps71, Tryz.results71]
    refine run_br_split (fun h => ?_) (fun h => ?_)
    · have hk : k < (a).length := by simpa using h
      have hr : (a)[k]? = some (a)[k] := List.getElem?_eq_getElem hk
      have hm : (a)[k] ∈ (a) := List.getElem_mem hk
      have ht : (a).take (k + 1) = (a).take k ++ [(a)[k]] := by rw [List.take_add_one, hr]; rfl
      have hd : (a).drop k = (a)[k] :: (a).drop (k + 1) := List.drop_eq_getElem_cons hk
      have hw : IntKind.wrap .i64 ((k : Int) + 1) = k + 1 := wrap_i64 (by omega) (by omega)
      obtain ⟨x, hx⟩ : ∃ x0, (a)[k] = x0 := ⟨_, rfl⟩
      rw [hx] at hr hm ht hd
      simp only [h]
      simp [hr, hw, Tryz.ntmps71, Tryz.results71]
      have hf := diffG_len (a.take k) b
      have hrk : (a.take k).length ≤ 1000000 := by simp; omega
      refine CW.callP (key_r x) Tryz.call110 rfl rfl rfl (by first | exact .inl rfl | exact .inr ⟨_, _, rfl, by simp⟩ | exact .inr ⟨_, _, rfl, by simp [*]⟩) rfl (by simp) rfl rfl (CW.runOps 9999 400 rfl ?_)
      simp [Tryz.ntmps71, Tryz.results71]
      cases hg : getR b x.key with
      | none =>
        refine CW.callP (get_r b x.key (by omega)) Tryz.call109 rfl rfl rfl (by first | exact .inl rfl | exact .inr ⟨_, _, rfl, by simp⟩ | exact .inr ⟨_, _, rfl, by simp [*]⟩) rfl (by simp [hg, hr, hk, hx]) rfl rfl (CW.runOps 9999 400 rfl ?_)
        simp [hg, hr, hk, hx, Tryz.ntmps71, Tryz.results71]
        refine CW.callP (key_r x) Tryz.call110 rfl rfl rfl (by first | exact .inl rfl | exact .inr ⟨_, _, rfl, by simp⟩ | exact .inr ⟨_, _, rfl, by simp [*]⟩) rfl (by simp) rfl rfl (CW.runOps 9999 400 rfl ?_)
        simp [Tryz.ntmps71, Tryz.results71]
        refine ⟨by omega, ?_⟩
        refine hB _ ⟨k + 1, by omega⟩ [] ?_ (by simp; omega)
        constructor <;> simp [hw, ht, diffG_snoc, hg]
      | some o =>
        refine CW.callP (get_r b x.key (by omega)) Tryz.call109 rfl rfl rfl (by first | exact .inl rfl | exact .inr ⟨_, _, rfl, by simp⟩ | exact .inr ⟨_, _, rfl, by simp [*]⟩) rfl (by simp [hg, hr, hk, hx]) rfl rfl (CW.runOps 9999 400 rfl ?_)
        simp [hg, hr, hk, hx, Tryz.ntmps71, Tryz.results71]
        refine hB _ ⟨k + 1, by omega⟩ [] ?_ (by simp; omega)
        constructor <;> simp [hw, ht, diffG_snoc, hg]
    · have hkl : k = (a).length := by simp at h; omega
      subst hkl
      simp only [h]
      simp [List.take_length, List.drop_length, Tryz.ntmps71, Tryz.results71]
      first | (exact fin0 (by simp) rfl) | (refine ⟨by decide +kernel, ?_⟩; exact fin0 (by simp) rfl)
theorem stamp_r (now l : List Res) (v : Int) (hn : OkRs now) (hnl : now.length ≤ 1000000) (hl : l.length ≤ 1000000) : Ct Tryz.prog 111 [lst (now.map resC), lst (l.map resC), int v] [] [] (lst ((stampR now l v).map resC)) [] := by
  refine Ct.of_body Tryz.func111 rfl mixed (by rw [Tryz.ntmps111]; simp) (CW.run 9999 400 rfl ?_)
  simp [Tryz.ntmps111, Tryz.results111]
  refine LoopW.nilOwn 7 7 51 rfl ?_
  refine LoopW.inv mixed (Plain.retC _ _ _ _ _) rfl (ι := {k : Nat // k ≤ (l).length}) (fun k => [(0, lst (now.map resC)), (1, lst (l.map resC)), (2, int v), (7, .own 64), (8, int k.1)]) (fun k => [(64, .grow 7 ((stampR now (l.take k.1) v).map resC) 51)]) 65 (fun k => (l).length - k.1) ⟨0, by omega⟩ [] (by constructor <;> simp) ?_
  rintro ⟨k, hk1⟩ B hB
  refine CW.run 9999 400 rfl ?_
  simp [Tryz.ntmps111, Tryz.results111]
  refine run_br_split (fun h => ?_) (fun h => ?_)
  · have hk : k < (l).length := by simpa using h
    have hr : (l)[k]? = some (l)[k] := List.getElem?_eq_getElem hk
    have hm : (l)[k] ∈ (l) := List.getElem_mem hk
    have ht : (l).take (k + 1) = (l).take k ++ [(l)[k]] := by rw [List.take_add_one, hr]; rfl
    have hd : (l).drop k = (l)[k] :: (l).drop (k + 1) := List.drop_eq_getElem_cons hk
    have hw : IntKind.wrap .i64 ((k : Int) + 1) = k + 1 := wrap_i64 (by omega) (by omega)
    obtain ⟨x, hx⟩ : ∃ x0, (l)[k] = x0 := ⟨_, rfl⟩
    rw [hx] at hr hm ht hd
    simp only [h]
    simp [hr, hw, Tryz.ntmps111, Tryz.results111]
    have hf := stampR_len now (l.take k) v
    have hrk : (l.take k).length ≤ 1000000 := by simp; omega
    refine CW.callP (key_r x) Tryz.call110 rfl rfl rfl (by first | exact .inl rfl | exact .inr ⟨_, _, rfl, by simp⟩ | exact .inr ⟨_, _, rfl, by simp [*]⟩) rfl (by simp) rfl rfl (CW.runOps 9999 400 rfl ?_)
    simp [Tryz.ntmps111, Tryz.results111]
    cases hg : getR now x.key with
    | none =>
      have hs : stamp1 now v x = { x with ver := v } := by unfold stamp1; rw [hg]
      refine CW.callP (get_r now x.key (by omega)) Tryz.call109 rfl rfl rfl (by first | exact .inl rfl | exact .inr ⟨_, _, rfl, by simp⟩ | exact .inr ⟨_, _, rfl, by simp [*]⟩) rfl (by simp [hg]) rfl rfl (CW.runOps 9999 400 rfl ?_)
      simp [hg, Tryz.ntmps111, Tryz.results111]
      refine ⟨by omega, ?_⟩
      refine hB _ ⟨k + 1, by omega⟩ [] ?_ (by simp; omega)
      constructor <;> simp [hw, ht, stampR_snoc, hs]
    | some o =>
      refine CW.callP (get_r now x.key (by omega)) Tryz.call109 rfl rfl rfl (by first | exact .inl rfl | exact .inr ⟨_, _, rfl, by simp⟩ | exact .inr ⟨_, _, rfl, by simp [*]⟩) rfl (by simp [hg]) rfl rfl (CW.runOps 9999 400 rfl ?_)
      simp [hg, Tryz.ntmps111, Tryz.results111]
      refine CW.callP (alike_r o { x with ver := v } (hn.all o (getR_mem hg))) Tryz.call85 rfl rfl rfl (by first | exact .inl rfl | exact .inr ⟨_, _, rfl, by simp⟩ | exact .inr ⟨_, _, rfl, by simp [*]⟩) rfl (by simp [alike_ver]) rfl rfl (CW.runOps 9999 400 rfl ?_)
      simp [alike_ver, Tryz.ntmps111, Tryz.results111]
      by_cases ha : alikeB o x = true
      · have hs : stamp1 now v x = { x with ver := o.ver } := by unfold stamp1; rw [hg]; simp [ha]
        simp [ha, Tryz.ntmps111, Tryz.results111]
        refine ⟨by omega, ?_⟩
        refine hB _ ⟨k + 1, by omega⟩ [] ?_ (by simp; omega)
        constructor <;> simp [hw, ht, stampR_snoc, hs]
      · have hs : stamp1 now v x = { x with ver := v } := by unfold stamp1; rw [hg]; simp [ha]
        simp [ha, Tryz.ntmps111, Tryz.results111]
        refine ⟨by omega, ?_⟩
        refine hB _ ⟨k + 1, by omega⟩ [] ?_ (by simp; omega)
        constructor <;> simp [hw, ht, stampR_snoc, hs]
  · have hkl : k = (l).length := by simp at h; omega
    subst hkl
    simp only [h]
    simp [List.take_length, List.drop_length, Tryz.ntmps111, Tryz.results111]
    first | (exact fin0 (by simp) rfl) | (refine ⟨by decide +kernel, ?_⟩; exact fin0 (by simp) rfl)
end Go.Proofs.YtnmocaniljacpaaGreatDoor
end
section
namespace Go.G
open Go.AI
theorem hist_prop {cap : Int} {h : List (List Res)} (hh : Hist cap h) {n : Nat} {now l : List Res} (e0 : h[n]? = some now) (e1 : h[n + 1]? = some l) :
    lastS ⟨cap, h.take (n + 1)⟩ = now ∧ propE ⟨cap, h.take (n + 1)⟩ (diffA now l) (diffG now l) = 0 ∧ propS ⟨cap, h.take (n + 1)⟩ (diffA now l) (diffG now l) = ⟨cap, h.take (n + 2)⟩ := by
  have hl : lastS ⟨cap, h.take (n + 1)⟩ = now := lastS_take e0
  obtain ⟨⟨p, hp⟩, hc⟩ := hh.step n _ _ e0 e1
  have hlt := (List.getElem?_eq_some_iff.1 e1).1
  have hlen : (h.take (n + 1)).length = n + 1 := by simp; omega
  have hN : propN ⟨cap, h.take (n + 1)⟩ (diffA now l) (diffG now l) = l := by
    unfold propN
    rw [hl, patch_diff (hh.asc e0) (hh.asc e1)]
    simp only [hlen]
    have : ((n + 1 : Nat) : Int) = (n : Int) + 1 := by omega
    rw [this, hp, stamp_idem]
  have hE : propE ⟨cap, h.take (n + 1)⟩ (diffA now l) (diffG now l) = 0 := by
    unfold propE
    rw [hN, hl]
    simp only [hlen]
    exact hc
  refine ⟨hl, hE, ?_⟩
  rw [propS_ok hE, hN, List.take_add_one (i := n + 1), e1]
  rfl
end Go.G
namespace Go.Proofs.YtnmocaniljacpaaGreatDoor
open Go.AI Go.G
set_option maxRecDepth 20000
theorem check_r (cap : Int) (n : Nat) (now next : List Res) (h : checkE cap n now next = 0) (hok : OkRs next) (hnow : OkRs now) : Ct Tryz.prog 113 [int cap, int n, lst (now.map resC), lst (next.map resC)] [] [] (int 0) [] := by
  refine Ct.of_body Tryz.func113 rfl mixed (by rw [Tryz.ntmps113]; simp) (CW.run 9999 400 rfl ?_)
  simp [Tryz.ntmps113, Tryz.results113]
  obtain ⟨hacc, hne⟩ := check_acc h
  have hn := check_n h
  have h64 := tab_len64 hacc.tab
  have c1 : ¬ (cap < (next.length : Int)) := by have := hacc.len; omega
  have c2 : ¬ ((100000 : Int) ≤ n) := by omega
  have c3 := hacc.miss
  refine CW.callP (tsane_r next hacc.tab hok) Tryz.call151 rfl rfl rfl (by first | exact .inl rfl | exact .inr ⟨_, _, rfl, by simp⟩ | exact .inr ⟨_, _, rfl, by simp [*]⟩) rfl (by simp [c1]) rfl rfl (CW.runOps 9999 400 rfl ?_)
  simp [c1, Tryz.ntmps113, Tryz.results113]
  refine CW.callP (missing_r next h64) Tryz.call152 rfl rfl rfl (by first | exact .inl rfl | exact .inr ⟨_, _, rfl, by simp⟩ | exact .inr ⟨_, _, rfl, by simp [*]⟩) rfl (by simp [c3]) rfl rfl (CW.runOps 9999 400 rfl ?_)
  simp [c3, Tryz.ntmps113, Tryz.results113]
  refine CW.callP (served_r next hacc.tab hacc.miss hacc.served) Tryz.call153 rfl rfl rfl (by first | exact .inl rfl | exact .inr ⟨_, _, rfl, by simp⟩ | exact .inr ⟨_, _, rfl, by simp [*]⟩) rfl (by simp) rfl rfl (CW.runOps 9999 400 rfl ?_)
  simp [Tryz.ntmps113, Tryz.results113]
  refine CW.callP (tsame_r now next hnow) Tryz.call25 rfl rfl rfl (by first | exact .inl rfl | exact .inr ⟨_, _, rfl, by simp⟩ | exact .inr ⟨_, _, rfl, by simp [*]⟩) rfl (by simp [hne, c2]) rfl rfl (CW.runOps 9999 400 rfl ?_)
  simp [hne, c2, Tryz.ntmps113, Tryz.results113]
  first | (exact fin0 (by simp) rfl) | (refine ⟨by decide +kernel, ?_⟩; exact fin0 (by simp) rfl)
theorem propose_r (s : Store) (adds : List Res) (gone : List Key) (h : propE s adds gone = 0) (hs : ¬ s.hist = []) (hl : s.hist.length ≤ 1000000) (hok : OkRs (lastS s)) (hn : (lastS s).length + adds.length ≤ 1000000) (ha : OkRs adds) (hg : gone.length ≤ 9223372036854775807) : Ct Tryz.prog 72 [st (storeC s), lst (adds.map resC), lst (gone.map keyC)] [] [] (.tup [st (storeC (propS s adds gone)), int 0]) [] := by
  refine Ct.of_body Tryz.func72 rfl mixed (by rw [Tryz.ntmps72]; simp) (CW.run 9999 400 rfl ?_)
  simp [Tryz.ntmps72, Tryz.results72]
  have h0 : 0 < s.hist.length := List.length_pos_iff.2 hs
  have hw : IntKind.wrap .i64 ((s.hist.length : Int) - 1) = ((s.hist.length - 1 : Nat) : Int) := by rw [wrap_i64 (by omega) (by omega)]; omega
  have e : s.hist[s.hist.length - 1]? = some (lastS s) := lastS_get h0
  have hlt : s.hist.length - 1 < s.hist.length := by omega
  have e2 : s.hist[s.hist.length - 1] = lastS s := (List.getElem?_eq_some_iff.1 e).2
  have hpl : (patchR (lastS s) adds gone).length ≤ 1000000 := Nat.le_trans (patch_len _ _ _) hn
  have okN := ok_stamp (now := lastS s) (v := s.hist.length) (ok_patch (g := gone) hok ha (by omega)) 
  have hE := h
  unfold propE propN at hE
  rw [propS_ok h]
  unfold propN
  simp [hw, e, e2, hlt, h0, Tryz.ntmps72, Tryz.results72]
  refine CW.callP (patch_r (lastS s) adds gone hn hg (fun r hr => (ha.all r hr).name)) Tryz.call112 rfl rfl rfl (by first | exact .inl rfl | exact .inr ⟨_, _, rfl, by simp⟩ | exact .inr ⟨_, _, rfl, by simp [*]⟩) rfl (by simp) rfl rfl (CW.runOps 9999 400 rfl ?_)
  simp [Tryz.ntmps72, Tryz.results72]
  refine CW.callP (stamp_r (lastS s) (patchR (lastS s) adds gone) s.hist.length hok (by omega) hpl) Tryz.call111 rfl rfl rfl (by first | exact .inl rfl | exact .inr ⟨_, _, rfl, by simp⟩ | exact .inr ⟨_, _, rfl, by simp [*]⟩) rfl (by simp) rfl rfl (CW.runOps 9999 400 rfl ?_)
  simp [Tryz.ntmps72, Tryz.results72]
  refine CW.callP (check_r s.cap s.hist.length (lastS s) (stampR (lastS s) (patchR (lastS s) adds gone) s.hist.length) hE okN hok) Tryz.call113 rfl rfl rfl (by first | exact .inl rfl | exact .inr ⟨_, _, rfl, by simp⟩ | exact .inr ⟨_, _, rfl, by simp [*]⟩) rfl (by simp) rfl rfl (CW.runOps 9999 400 rfl ?_)
  simp [Tryz.ntmps72, Tryz.results72]
  refine ⟨by omega, ?_⟩
  refine ⟨by omega, ?_⟩
  first | (exact fin0 (by simp) rfl) | (refine ⟨by decide +kernel, ?_⟩; exact fin0 (by simp) rfl)
theorem ssane_r (s : Store) (hs : OkStore s) (h : sanS s = true) (hl : s.hist.length ≤ 1000) : Ct Tryz.prog 35 [st (storeC s)] [] [] (bool true) [] := by
  refine Ct.of_body Tryz.func35 rfl mixed (by rw [Tryz.ntmps35]; simp) (CW.run 9999 400 rfl ?_)
  simp [Tryz.ntmps35, Tryz.results35]
  obtain ⟨s1, s2, s3⟩ := (sanS_iff s).1 h
  have hpos := sane_pos h
  have hcp := capN_pos s.cap
  rw [← s1] at hcp
  have c1 : ¬ (s.cap < 0) := by omega
  have c2 : ¬ (64 < s.cap) := by omega
  have c3 : ¬ ((s.hist.length : Int) < 1) := by omega
  have c4 : ¬ ((100000 : Int) < s.hist.length) := by omega
  have c5 : s.hist[0] = [] := (List.getElem?_eq_some_iff.1 s3.first).2
  have hlen64 := sane_len h
  have hcapn : newS s.cap = ⟨s.cap, s.hist.take 1⟩ := by
    unfold newS; rw [← s1, List.take_add_one (i := 0), s3.first]; rfl
  have hN := newS_r s.cap
  rw [hcapn] at hN
  have hprop : ∀ (n : Nat) now l, s.hist[n]? = some now → s.hist[n + 1]? = some l → lastS ⟨s.cap, s.hist.take (n + 1)⟩ = now ∧ propE ⟨s.cap, s.hist.take (n + 1)⟩ (diffA now l) (diffG now l) = 0 ∧ propS ⟨s.cap, s.hist.take (n + 1)⟩ (diffA now l) (diffG now l) = ⟨s.cap, s.hist.take (n + 2)⟩ := fun n now l e0 e1 => hist_prop s3 e0 e1
  obtain ⟨T, hT⟩ : ∃ T : Nat → Store, (fun n => ⟨s.cap, s.hist.take n⟩) = T := ⟨_, rfl⟩
  have hTe : ∀ n, (⟨s.cap, s.hist.take n⟩ : Store) = T n := fun n => by rw [← hT]
  simp only [hTe] at hN hprop
  have hTl : ∀ n, n ≤ s.hist.length → (T n).hist.length = n := fun n hn => by rw [← hTe]; simp; omega
  have hTg : ∀ (n : Nat) l, s.hist[n]? = some l → (T (n + 1)).hist[n]? = some l := fun n l hl => by rw [← hTe]; simp [hl]
  clear hTe hT hcapn
  simp [c1, c2, c3, c4, c5, s3.first, hpos, Tryz.ntmps35, Tryz.results35]
  refine CW.callP (hN ) Tryz.call70 rfl rfl rfl (by first | exact .inl rfl | exact .inr ⟨_, _, rfl, by simp⟩ | exact .inr ⟨_, _, rfl, by simp [*]⟩) rfl (by simp) rfl rfl (CW.runOps 9999 400 rfl ?_)
  simp [Tryz.ntmps35, Tryz.results35]
  refine LoopW.inv mixed (Plain.retC _ _ _ _ _) rfl (ι := {n : Nat // 1 ≤ n ∧ n ≤ s.hist.length}) (fun k => [(1, .ptr 64 0), (3, .ptr 65 0), (4, int k.1)]) (fun k => [(64, .cells ((storeC s).map .d) 24), (65, .cells ((storeC (T k.1)).map .d) 24)]) 66 (fun k => s.hist.length - k.1) ⟨1, by omega, by omega⟩ [] (by constructor <;> simp) ?_
  rintro ⟨n, hn1, hn2⟩ B hB
  refine CW.run 9999 400 rfl ?_
  simp [Tryz.ntmps35, Tryz.results35]
  refine run_br_split (fun hb => ?_) (fun hb => ?_) <;> simp only [hb] <;> simp [Tryz.ntmps35, Tryz.results35] <;> (try simp only [Bool.not_eq_true', Bool.not_eq_false', decide_eq_true_eq, decide_eq_false_iff_not] at hb)
  · have hlt : n < s.hist.length := by omega
    have hlt' : n - 1 < s.hist.length := by omega
    obtain ⟨l, hx⟩ : ∃ x, s.hist[n]? = some x := ⟨_, List.getElem?_eq_getElem hlt⟩
    obtain ⟨now, hy⟩ : ∃ y, s.hist[n - 1]? = some y := ⟨_, List.getElem?_eq_getElem hlt'⟩
    have hxe : s.hist[n] = l := (List.getElem?_eq_some_iff.1 hx).2
    have hye : s.hist[n - 1] = now := (List.getElem?_eq_some_iff.1 hy).2
    have hw1 : IntKind.wrap .i64 ((n : Int) - 1) = ((n - 1 : Nat) : Int) := by rw [wrap_i64 (by omega) (by omega)]; omega
    have hw2 : IntKind.wrap .i64 ((n : Int) + 1) = ((n + 1 : Nat) : Int) := by rw [wrap_i64 (by omega) (by omega)]; omega
    have hge : (1 : Int) ≤ n := by omega
    have okl := hs.all l (List.mem_of_getElem? hx)
    have okn := hs.all now (List.mem_of_getElem? hy)
    have l64 := hlen64 l (List.mem_of_getElem? hx)
    have n64 := hlen64 now (List.mem_of_getElem? hy)
    have hp := hprop (n - 1) now l hy (by rw [show n - 1 + 1 = n by omega]; exact hx)
    rw [show n - 1 + 1 = n by omega, show n - 1 + 2 = n + 1 by omega] at hp
    obtain ⟨p1, p2, p3⟩ := hp
    have hg1 := hTg n l hx
    have hl1 := hTl (n + 1) (by omega)
    have hl0 := hTl n (by omega)
    have hgl : n < (T (n + 1)).hist.length := by omega
    have hge2 : (T (n + 1)).hist[n] = l := (List.getElem?_eq_some_iff.1 hg1).2
    have a1 := diffA_len now l
    have a2 := diffG_len now l
    have pR := propose_r (T n) (diffA now l) (diffG now l) p2 (by intro e; rw [e] at hl0; simp at hl0; omega) (by omega) (by rw [p1]; exact okn) (by rw [p1]; omega) (ok_diffA okl) (by omega)
    rw [p3] at pR
    simp [hw1, hx, hy, hxe, hye, hlt, hlt', hge, Tryz.ntmps35, Tryz.results35]
    refine CW.callP (diff_r now l okn (by omega) (by omega)) Tryz.call71 rfl rfl rfl (by first | exact .inl rfl | exact .inr ⟨_, _, rfl, by simp⟩ | exact .inr ⟨_, _, rfl, by simp [*]⟩) rfl (by simp [hw1, hx, hy, hxe, hye, hlt, hlt', hge]) rfl rfl (CW.runOps 9999 400 rfl ?_)
    simp [hw1, hx, hy, hxe, hye, hlt, hlt', hge, Tryz.ntmps35, Tryz.results35]
    refine ⟨by decide +kernel, ?_⟩
    refine CW.callP (pR ) Tryz.call72 rfl rfl rfl (by first | exact .inl rfl | exact .inr ⟨_, _, rfl, by simp⟩ | exact .inr ⟨_, _, rfl, by simp [*]⟩) rfl (by simp [hg1, hgl, hge2, hx, hxe, hlt]) rfl rfl (CW.runOps 9999 400 rfl ?_)
    simp [hg1, hgl, hge2, hx, hxe, hlt, Tryz.ntmps35, Tryz.results35]
    refine CW.callP (tsame_r l l okl) Tryz.call25 rfl rfl rfl (by first | exact .inl rfl | exact .inr ⟨_, _, rfl, by simp⟩ | exact .inr ⟨_, _, rfl, by simp [*]⟩) rfl (by simp) rfl rfl (CW.runOps 9999 400 rfl ?_)
    simp [Tryz.ntmps35, Tryz.results35]
    refine ⟨by decide +kernel, ?_⟩
    refine hB _ ⟨n + 1, by omega, by omega⟩ [] ?_ (by simp; omega)
    constructor <;> simp [hw2]
  · first | (exact fin0 (by simp) rfl) | (refine ⟨by decide +kernel, ?_⟩; exact fin0 (by simp) rfl)
end Go.Proofs.YtnmocaniljacpaaGreatDoor
end
section
namespace Go.G
open Go.AI
theorem prop_len (s : Store) (adds : List Res) (gone : List Key) : (propS s adds gone).hist.length ≤ s.hist.length + 1 := by
  unfold propS
  split
  · simp
  · omega
end Go.G
namespace Go.Proofs.YtnmocaniljacpaaGreatDoor
open Go.AI Go.G
set_option maxRecDepth 20000
theorem policyAlone_w (s : Store) (adds : List Res) (gone : List Key) (hs : OkStore s) (ha : OkRs adds) (hgo : gone.length ≤ 9223372036854775807 ∧ ∀ k ∈ gone, nB k.name) : CtJ errG Tryz.prog 6 [st (storeC s), lst (adds.map resC), lst (gone.map keyC)] [] [] (bool true) [] := by
  refine CtJ.of_body errK Tryz.func6 rfl mixed (by rw [Tryz.ntmps6]; simp) (CI.run 9999 400 rfl ?_)
  simp [Tryz.ntmps6, Tryz.results6]
  have hg := hgo.1
  refine CI.callJ [] (awake9 ) Tryz.call18 rfl rfl rfl (by first | exact .inl rfl | exact .inr ⟨_, _, rfl, by simp⟩ | exact .inr ⟨_, _, rfl, by simp [*]⟩) rfl (by simp) (by constructor <;> simp [nmOk]) (by simp) (CI.runOps 9999 400 rfl ?_)
  simp [Tryz.ntmps6, Tryz.results6]
  refine CI.callP (few9_l s adds gone hs ha hg) Tryz.call29 rfl rfl rfl (by first | exact .inl rfl | exact .inr ⟨_, _, rfl, by simp⟩ | exact .inr ⟨_, _, rfl, by simp [*]⟩) rfl (by simp) rfl rfl (CI.runOps 9999 400 rfl ?_)
  simp [Tryz.ntmps6, Tryz.results6]
  by_cases h1 : few9 s adds gone = true
  · obtain ⟨q1, q2, q3, q4⟩ := ok_few h1
    have hf : ∀ l ∈ s.hist, l.length ≤ 1000 := fun l hl => Nat.le_trans (q1 l hl) (by omega)
    simp [h1, Tryz.ntmps6, Tryz.results6]
    refine CI.callP (ours_l s) Tryz.call30 rfl rfl rfl (by first | exact .inl rfl | exact .inr ⟨_, _, rfl, by simp⟩ | exact .inr ⟨_, _, rfl, by simp [*]⟩) rfl (by simp) rfl rfl (CI.runOps 9999 400 rfl ?_)
    simp [Tryz.ntmps6, Tryz.results6]
    refine CI.callP (psane_p s hs hf) Tryz.call12 rfl rfl rfl (by first | exact .inl rfl | exact .inr ⟨_, _, rfl, by simp⟩ | exact .inr ⟨_, _, rfl, by simp [*]⟩) rfl (by simp) rfl rfl (CI.runOps 9999 400 rfl ?_)
    simp [Tryz.ntmps6, Tryz.results6]
    by_cases h2 : sanS s = true
    · simp [h2, Tryz.ntmps6, Tryz.results6]
      have ht := sane_taken h2
      have hl80 := len_last q1
      have okl := ok_last hs
      have htN := sane_taken (sane_new s.cap)
      have pN := now_p s (by omega)
      rw [ht] at pN
      have okNew : OkStore (newS s.cap) := ⟨by simp [newS], by simp [newS]; exact ⟨by simp, by simp⟩⟩
      have hone : oneS s = propS (newS s.cap) (lastS s) [] := rfl
      have p1 := Propose_p (newS s.cap) (lastS s) [] (by simp [newS]) (by rw [htN]; exact ok_last okNew) (by rw [htN, lastS_new]; simp; omega) (by simp)
      rw [htN, one_E h2, ← hone] at p1
      have okO : OkStore (oneS s) := ok_propS okNew okl (by rw [lastS_new]; simp; omega) (by simp [newS])
      have sO : sanS (oneS s) = true := sane_one
      have htO := sane_taken sO
      have lO := one_len s
      have lO64 := len_last (sane_len sO)
      have pP := Propose_p s adds gone (by omega) (by rw [ht]; exact okl) (by rw [ht]; omega) hg
      rw [ht] at pP
      have p2 := Propose_p (oneS s) adds gone (by omega) (by rw [htO]; exact ok_last okO) (by rw [htO]; omega) hg
      rw [htO, alone_E h2 (by omega)] at p2
      have hlen := alone_len h2 (by omega) adds gone
      have sA := sane_prop h2 adds gone
      have sB := sane_prop sO adds gone
      have okB : OkStore (propS (oneS s) adds gone) := ok_propS okO ha (by omega) (by omega)
      have lA : (propS s adds gone).hist.length ≤ 1000 := by have := prop_len s adds gone; omega
      have lB : (propS (oneS s) adds gone).hist.length ≤ 1000 := by have := prop_len (oneS s) adds gone; omega
      have pA := now_p (propS s adds gone) (by omega)
      rw [sane_taken sA] at pA
      have pB := now_p (propS (oneS s) adds gone) (by omega)
      rw [sane_taken sB] at pB
      have pS := ssane_r _ okB sB lB
      generalize propE s adds gone = e at pP p2
      generalize propS s adds gone = A at pP pA hlen
      generalize propS (oneS s) adds gone = B at p2 pB pS hlen
      generalize oneS s = O at p1 p2
      refine CI.callP (ours_l s) Tryz.call30 rfl rfl rfl (by first | exact .inl rfl | exact .inr ⟨_, _, rfl, by simp⟩ | exact .inr ⟨_, _, rfl, by simp [*]⟩) rfl (by simp) rfl rfl (CI.runOps 9999 400 rfl ?_)
      simp [Tryz.ntmps6, Tryz.results6]
      refine CI.callP (pN ) Tryz.call22 rfl rfl rfl (by first | exact .inl rfl | exact .inr ⟨_, _, rfl, by simp⟩ | exact .inr ⟨_, _, rfl, by simp [*]⟩) rfl (by simp) rfl rfl (CI.runOps 9999 400 rfl ?_)
      simp [Tryz.ntmps6, Tryz.results6]
      refine CI.callP (newS_p s.cap) Tryz.call19 rfl rfl rfl (by first | exact .inl rfl | exact .inr ⟨_, _, rfl, by simp⟩ | exact .inr ⟨_, _, rfl, by simp [*]⟩) rfl (by simp) rfl rfl (CI.runOps 9999 400 rfl ?_)
      simp [Tryz.ntmps6, Tryz.results6]
      refine CI.callJ [] (p1 ) Tryz.call21 rfl rfl rfl (by first | exact .inl rfl | exact .inr ⟨_, _, rfl, by simp⟩ | exact .inr ⟨_, _, rfl, by simp [*]⟩) rfl (by simp) (by constructor <;> simp [nmOk]) (by simp) (CI.runOps 9999 400 rfl ?_)
      simp [Tryz.ntmps6, Tryz.results6]
      refine CI.callP (ours_l s) Tryz.call30 rfl rfl rfl (by first | exact .inl rfl | exact .inr ⟨_, _, rfl, by simp⟩ | exact .inr ⟨_, _, rfl, by simp [*]⟩) rfl (by simp) rfl rfl (CI.runOps 9999 400 rfl ?_)
      simp [Tryz.ntmps6, Tryz.results6]
      refine CI.callJ [] (pP ) Tryz.call21 rfl rfl rfl (by first | exact .inl rfl | exact .inr ⟨_, _, rfl, by simp⟩ | exact .inr ⟨_, _, rfl, by simp [*]⟩) rfl (by simp) (by constructor <;> simp [nmOk]) (by simp) (CI.runOps 9999 400 rfl ?_)
      simp [Tryz.ntmps6, Tryz.results6]
      refine CI.callJ [] (p2 ) Tryz.call21 rfl rfl rfl (by first | exact .inl rfl | exact .inr ⟨_, _, rfl, by simp⟩ | exact .inr ⟨_, _, rfl, by simp [*]⟩) rfl (by simp) (by constructor <;> simp [nmOk]) (by simp) (CI.runOps 9999 400 rfl ?_)
      simp [Tryz.ntmps6, Tryz.results6]
      refine CI.callP (pA ) Tryz.call22 rfl rfl rfl (by first | exact .inl rfl | exact .inr ⟨_, _, rfl, by simp⟩ | exact .inr ⟨_, _, rfl, by simp [*]⟩) rfl (by simp) rfl rfl (CI.runOps 9999 400 rfl ?_)
      simp [Tryz.ntmps6, Tryz.results6]
      refine CI.callP (pB ) Tryz.call22 rfl rfl rfl (by first | exact .inl rfl | exact .inr ⟨_, _, rfl, by simp⟩ | exact .inr ⟨_, _, rfl, by simp [*]⟩) rfl (by simp) rfl rfl (CI.runOps 9999 400 rfl ?_)
      simp [Tryz.ntmps6, Tryz.results6]
      by_cases hn : lastS s = []
      · simp [hn, Tryz.ntmps6, Tryz.results6]
        first | (exact fin0 (by simp) rfl) | (refine ⟨by decide +kernel, ?_⟩; exact fin0 (by simp) rfl)
      · simp [hn, hlen, Tryz.ntmps6, Tryz.results6]
        refine CI.callP (theirs_l B) Tryz.call24 rfl rfl rfl (by first | exact .inl rfl | exact .inr ⟨_, _, rfl, by simp⟩ | exact .inr ⟨_, _, rfl, by simp [*]⟩) rfl (by simp) rfl rfl (CI.runOps 9999 400 rfl ?_)
        simp [Tryz.ntmps6, Tryz.results6]
        refine CI.callP (pS ) Tryz.call35 rfl rfl rfl (by first | exact .inl rfl | exact .inr ⟨_, _, rfl, by simp⟩ | exact .inr ⟨_, _, rfl, by simp [*]⟩) rfl (by simp) rfl rfl (CI.runOps 9999 400 rfl ?_)
        simp [Tryz.ntmps6, Tryz.results6]
        first | (exact fin0 (by simp) rfl) | (refine ⟨by decide +kernel, ?_⟩; exact fin0 (by simp) rfl)
    · simp [h2, Tryz.ntmps6, Tryz.results6]
      first | (exact fin0 (by simp) rfl) | (refine ⟨by decide +kernel, ?_⟩; exact fin0 (by simp) rfl)
  · simp [h1, Tryz.ntmps6, Tryz.results6]
    first | (exact fin0 (by simp) rfl) | (refine ⟨by decide +kernel, ?_⟩; exact fin0 (by simp) rfl)
end Go.Proofs.YtnmocaniljacpaaGreatDoor
end
