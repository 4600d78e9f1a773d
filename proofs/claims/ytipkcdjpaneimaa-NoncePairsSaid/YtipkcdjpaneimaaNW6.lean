/-
  LAYER 13: the walk of NoncePairs: it answers true, whatever it is given.
-/
import Derived.Test.YtipkcdjpaneimaaNW3
import Derived.Test.YtipkcdjpaneimaaAi3
set_option linter.unusedSimpArgs false
set_option linter.unusedVariables false
namespace Go.Proofs.Ytipkcdjpaneimaa
open Go.AI Go.Nonce
set_option maxRecDepth 20000
set_option maxHeartbeats 4000000

theorem and63 (r : Int) : 0 ≤ andK .i64 r 63 ∧ andK .i64 r 63 ≤ 63 := by
  have h : (BitVec.ofInt (IntKind.bits .i64) r &&& BitVec.ofInt (IntKind.bits .i64) 63).toNat ≤ 63 := by
    rw [BitVec.toNat_and]
    exact Nat.le_trans Nat.and_le_right (by decide)
  simp only [andK]
  generalize (BitVec.ofInt (IntKind.bits .i64) r &&& BitVec.ofInt (IntKind.bits .i64) 63).toNat = q at h
  rw [wrap_i64 (by omega) (by omega)]
  omega

theorem bnd_is (m : Int) : (if 1 < if 2147483647 < m then 2147483647 else m then if 2147483647 < m then 2147483647 else m else 1) = bnd m := by
  simp only [bnd]; omega

-- groyne/groynelaw13.NoncePairs
theorem noncePairs (m k n : Int) : CtP Try.prog 7 [int m, int k, int n] (bool true) := by
  refine CtP.of_body Try.func7 rfl mixed (by rw [Try.ntmps7]; simp) (CW.run 500 rfl ?_)
  simp [Try.ntmps7, Try.results7]
  refine CW.call (awake) (fun _ _ => by simp [Try.call8]) rfl rfl rfl (by first | exact .inl rfl | exact .inr ⟨_, _, rfl, by simp []⟩) rfl rfl rfl (CW.runOps 300 rfl ?_)
  simp [Try.ntmps7, Try.results7]
  refine CW.call (start _) (fun _ _ => by simp [Try.call17]) rfl rfl rfl (by first | exact .inl rfl | exact .inr ⟨_, _, rfl, by simp []⟩) rfl rfl rfl (CW.runOps 300 rfl ?_)
  simp [Try.ntmps7, Try.results7]
  have hr := and3 k
  have hq := and63 n
  generalize andK .i64 k 3 = r at hr ⊢
  generalize andK .i64 n 63 = q at hq ⊢
  simp only [bnd_is, startO, startI]
  have hb := bnd_ok m
  generalize bnd m = M at hb ⊢
  rcases hr with rfl | rfl | rfl | rfl
  · refine LoopW.of mixed (Plain.ret _ _ _) rfl (ι := { j : Int // 0 ≤ j ∧ j ≤ q ∧ j ≤ M })
      (fun j => ⟨[(13, int j.1), (12, int q), (11, int M), (10, int 0), (9, .ptr 576 0), (8, .ptr 512 0), (7, bool true)], [(576, some (.cells [int j.1, int 0, int 0, int 0, int M] 40)), (512, some (.cells [int j.1, int 0, int 0, int 0, bool false, bool false, bool false, bool false, int M] 29))], 1472⟩)
      (fun j => (q - j.1).toNat) ?_ ⟨0, by omega⟩ (Rel.reset' (by simp [resT, bdA]) (by simp [resM, bdB, bdA.bdL, bdA]))
    intro j B hB
    obtain ⟨j, hj⟩ := j
    refine CW.run 300 rfl ?_
    simp [Try.ntmps7, Try.results7]
    refine run_br_split (fun h => ?_) (fun h => ?_)
    · simp only [decide_eq_true_eq] at h
      have hg : goodB ⟨j, 0, 0, 0, false, false, false, false, M⟩ = true := by
        rw [goodB_is (by simp) (by simp) (by simp) (by simp), soundB_mk]; omega
      have hs : soundB ⟨j, 0, 0, 0, M⟩ = true := by rw [soundB_mk]; omega
      by_cases hm : j = M
      · subst hm
        have e2 : push ⟨j, 0, 0, 0, false, false, false, false, j⟩ 0 = (⟨j, 0, 0, 0, false, false, false, false, j⟩, 0, 14) := by simp [push, outF, hg, pushQ, Ou.open', Ou.last, kindB]
        simp [Try.ntmps7, Try.results7]
        refine CW.call (push_w _ _ _ _ _ _ _ _ _ _) (fun _ _ => by simp [Try.call9]) rfl rfl rfl (by first | exact .inl rfl | exact .inr ⟨_, _, rfl, by simp []⟩) rfl rfl rfl (CW.runOps 300 rfl ?_)
        simp [e2, Try.ntmps7, Try.results7]
        repeat' first
          | (refine run_gd_split (fun h => ?_) (fun h => ?_) <;> simp [h, Try.ntmps7, Try.results7])
          | (refine run_br_split (fun h => ?_) (fun h => ?_) <;> simp [h, Try.ntmps7, Try.results7])
          | (refine ⟨by decide +kernel, ?_⟩)
          | (refine LoopW.unroll mixed (Plain.ret _ _ _) rfl (CW.run 300 rfl ?_); simp [*, Try.ntmps7, Try.results7])
        all_goals exact Sub.of_eq rfl rfl
      · have e2 : push ⟨j, 0, 0, 0, false, false, false, false, M⟩ 0 = (⟨j + 1, 0, 0, 0, true, false, false, false, M⟩, j + 1, 0) := by simp [push, outF, hg, pushQ, Ou.open', Ou.last, Ou.set, kindB, hm]
        have hp : goodB ⟨j + 1, 0, 0, 0, true, false, false, false, M⟩ = true := by
          rw [goodB_is (by first | (intro _; omega) | simp) (by first | (intro _; omega) | simp) (by first | (intro _; omega) | simp) (by first | (intro _; omega) | simp), soundB_mk]; omega
        have e3 : take ⟨j, 0, 0, 0, M⟩ 0 (j + 1) = (⟨j + 1, 0, 0, 0, M⟩, 0) := by
          have h1 : ¬ (j + 1 = j) := by omega
          have h2 : ¬ (M < j + 1) := by omega
          simp [take, inF, hs, takeQ, Nn.last, Nn.set, kindB, h1, h2]
        have e5 : done ⟨j + 1, 0, 0, 0, true, false, false, false, M⟩ 0 (j + 1) = (⟨j + 1, 0, 0, 0, false, false, false, false, M⟩, 0) := by simp [done, outF, hp, doneQ, Ou.open', Ou.last, Ou.set, kindB]
        have hw : IntKind.wrap .i64 (j + 1) = j + 1 := wrap_i64 (by omega) (by omega)
        have hle : ¬ (M ≤ j) := by omega
        simp [Try.ntmps7, Try.results7]
        refine CW.call (push_w _ _ _ _ _ _ _ _ _ _) (fun _ _ => by simp [Try.call9]) rfl rfl rfl (by first | exact .inl rfl | exact .inr ⟨_, _, rfl, by simp []⟩) rfl rfl rfl (CW.runOps 300 rfl ?_)
        simp [e2, hle, Try.ntmps7, Try.results7]
        refine CW.call (take_w _ _ _ _ _ _ _) (fun _ _ => by simp [Try.call14]) rfl rfl rfl (by first | exact .inl rfl | exact .inr ⟨_, _, rfl, by simp []⟩) rfl rfl rfl (CW.runOps 300 rfl ?_)
        simp [e3, Try.ntmps7, Try.results7]
        refine CW.call (done_w _ _ _ _ _ _ _ _ _ _ _) (fun _ _ => by simp [Try.call12]) rfl rfl rfl (by first | exact .inl rfl | exact .inr ⟨_, _, rfl, by simp []⟩) rfl rfl rfl (CW.runOps 300 rfl ?_)
        simp [e5, hw, Try.ntmps7, Try.results7]
        repeat' first
          | (refine run_gd_split (fun h => ?_) (fun h => ?_) <;> simp [h, hw, Try.ntmps7, Try.results7])
          | (refine run_br_split (fun h => ?_) (fun h => ?_) <;> simp [h, hw, Try.ntmps7, Try.results7])
          | (refine ⟨by decide +kernel, ?_⟩)
          | (refine LoopW.unroll mixed (Plain.ret _ _ _) rfl (CW.run 300 rfl ?_); simp [*, hw, Try.ntmps7, Try.results7])
        exact hB _ ⟨j + 1, by omega⟩ (Rel.reset' (by simp [resT, bdA]) (by simp [resM, bdB, bdA.bdL, bdA])) (by show (q - (j + 1)).toNat < (q - j).toNat; omega)
    · have hj' : j = q := by simp only [decide_eq_false_iff_not] at h; omega
      subst hj'
      simp [Try.ntmps7, Try.results7]
      repeat' first
        | (refine run_gd_split (fun h => ?_) (fun h => ?_) <;> simp [h, Try.ntmps7, Try.results7])
        | (refine run_br_split (fun h => ?_) (fun h => ?_) <;> simp [h, Try.ntmps7, Try.results7])
        | (refine ⟨by decide +kernel, ?_⟩)
        | (refine LoopW.unroll mixed (Plain.ret _ _ _) rfl (CW.run 300 rfl ?_); simp [*, Try.ntmps7, Try.results7])
      all_goals exact Sub.of_eq rfl rfl
  · refine LoopW.of mixed (Plain.ret _ _ _) rfl (ι := { j : Int // 0 ≤ j ∧ j ≤ q ∧ j ≤ M })
      (fun j => ⟨[(13, int j.1), (12, int q), (11, int M), (10, int 1), (9, .ptr 576 0), (8, .ptr 512 0), (7, bool true)], [(576, some (.cells [int 0, int j.1, int 0, int 0, int M] 40)), (512, some (.cells [int 0, int j.1, int 0, int 0, bool false, bool false, bool false, bool false, int M] 29))], 1472⟩)
      (fun j => (q - j.1).toNat) ?_ ⟨0, by omega⟩ (Rel.reset' (by simp [resT, bdA]) (by simp [resM, bdB, bdA.bdL, bdA]))
    intro j B hB
    obtain ⟨j, hj⟩ := j
    refine CW.run 300 rfl ?_
    simp [Try.ntmps7, Try.results7]
    refine run_br_split (fun h => ?_) (fun h => ?_)
    · simp only [decide_eq_true_eq] at h
      have hg : goodB ⟨0, j, 0, 0, false, false, false, false, M⟩ = true := by
        rw [goodB_is (by simp) (by simp) (by simp) (by simp), soundB_mk]; omega
      have hs : soundB ⟨0, j, 0, 0, M⟩ = true := by rw [soundB_mk]; omega
      by_cases hm : j = M
      · subst hm
        have e2 : push ⟨0, j, 0, 0, false, false, false, false, j⟩ 1 = (⟨0, j, 0, 0, false, false, false, false, j⟩, 0, 14) := by simp [push, outF, hg, pushQ, Ou.open', Ou.last, kindB]
        simp [Try.ntmps7, Try.results7]
        refine CW.call (push_w _ _ _ _ _ _ _ _ _ _) (fun _ _ => by simp [Try.call9]) rfl rfl rfl (by first | exact .inl rfl | exact .inr ⟨_, _, rfl, by simp []⟩) rfl rfl rfl (CW.runOps 300 rfl ?_)
        simp [e2, Try.ntmps7, Try.results7]
        repeat' first
          | (refine run_gd_split (fun h => ?_) (fun h => ?_) <;> simp [h, Try.ntmps7, Try.results7])
          | (refine run_br_split (fun h => ?_) (fun h => ?_) <;> simp [h, Try.ntmps7, Try.results7])
          | (refine ⟨by decide +kernel, ?_⟩)
          | (refine LoopW.unroll mixed (Plain.ret _ _ _) rfl (CW.run 300 rfl ?_); simp [*, Try.ntmps7, Try.results7])
        all_goals exact Sub.of_eq rfl rfl
      · have e2 : push ⟨0, j, 0, 0, false, false, false, false, M⟩ 1 = (⟨0, j + 1, 0, 0, false, true, false, false, M⟩, j + 1, 0) := by simp [push, outF, hg, pushQ, Ou.open', Ou.last, Ou.set, kindB, hm]
        have hp : goodB ⟨0, j + 1, 0, 0, false, true, false, false, M⟩ = true := by
          rw [goodB_is (by first | (intro _; omega) | simp) (by first | (intro _; omega) | simp) (by first | (intro _; omega) | simp) (by first | (intro _; omega) | simp), soundB_mk]; omega
        have e3 : take ⟨0, j, 0, 0, M⟩ 1 (j + 1) = (⟨0, j + 1, 0, 0, M⟩, 0) := by
          have h1 : ¬ (j + 1 = j) := by omega
          have h2 : ¬ (M < j + 1) := by omega
          simp [take, inF, hs, takeQ, Nn.last, Nn.set, kindB, h1, h2]
        have e5 : done ⟨0, j + 1, 0, 0, false, true, false, false, M⟩ 1 (j + 1) = (⟨0, j + 1, 0, 0, false, false, false, false, M⟩, 0) := by simp [done, outF, hp, doneQ, Ou.open', Ou.last, Ou.set, kindB]
        have hw : IntKind.wrap .i64 (j + 1) = j + 1 := wrap_i64 (by omega) (by omega)
        have hle : ¬ (M ≤ j) := by omega
        simp [Try.ntmps7, Try.results7]
        refine CW.call (push_w _ _ _ _ _ _ _ _ _ _) (fun _ _ => by simp [Try.call9]) rfl rfl rfl (by first | exact .inl rfl | exact .inr ⟨_, _, rfl, by simp []⟩) rfl rfl rfl (CW.runOps 300 rfl ?_)
        simp [e2, hle, Try.ntmps7, Try.results7]
        refine CW.call (take_w _ _ _ _ _ _ _) (fun _ _ => by simp [Try.call14]) rfl rfl rfl (by first | exact .inl rfl | exact .inr ⟨_, _, rfl, by simp []⟩) rfl rfl rfl (CW.runOps 300 rfl ?_)
        simp [e3, Try.ntmps7, Try.results7]
        refine CW.call (done_w _ _ _ _ _ _ _ _ _ _ _) (fun _ _ => by simp [Try.call12]) rfl rfl rfl (by first | exact .inl rfl | exact .inr ⟨_, _, rfl, by simp []⟩) rfl rfl rfl (CW.runOps 300 rfl ?_)
        simp [e5, hw, Try.ntmps7, Try.results7]
        repeat' first
          | (refine run_gd_split (fun h => ?_) (fun h => ?_) <;> simp [h, hw, Try.ntmps7, Try.results7])
          | (refine run_br_split (fun h => ?_) (fun h => ?_) <;> simp [h, hw, Try.ntmps7, Try.results7])
          | (refine ⟨by decide +kernel, ?_⟩)
          | (refine LoopW.unroll mixed (Plain.ret _ _ _) rfl (CW.run 300 rfl ?_); simp [*, hw, Try.ntmps7, Try.results7])
        exact hB _ ⟨j + 1, by omega⟩ (Rel.reset' (by simp [resT, bdA]) (by simp [resM, bdB, bdA.bdL, bdA])) (by show (q - (j + 1)).toNat < (q - j).toNat; omega)
    · have hj' : j = q := by simp only [decide_eq_false_iff_not] at h; omega
      subst hj'
      simp [Try.ntmps7, Try.results7]
      repeat' first
        | (refine run_gd_split (fun h => ?_) (fun h => ?_) <;> simp [h, Try.ntmps7, Try.results7])
        | (refine run_br_split (fun h => ?_) (fun h => ?_) <;> simp [h, Try.ntmps7, Try.results7])
        | (refine ⟨by decide +kernel, ?_⟩)
        | (refine LoopW.unroll mixed (Plain.ret _ _ _) rfl (CW.run 300 rfl ?_); simp [*, Try.ntmps7, Try.results7])
      all_goals exact Sub.of_eq rfl rfl
  · refine LoopW.of mixed (Plain.ret _ _ _) rfl (ι := { j : Int // 0 ≤ j ∧ j ≤ q ∧ j ≤ M })
      (fun j => ⟨[(13, int j.1), (12, int q), (11, int M), (10, int 2), (9, .ptr 576 0), (8, .ptr 512 0), (7, bool true)], [(576, some (.cells [int 0, int 0, int j.1, int 0, int M] 40)), (512, some (.cells [int 0, int 0, int j.1, int 0, bool false, bool false, bool false, bool false, int M] 29))], 1472⟩)
      (fun j => (q - j.1).toNat) ?_ ⟨0, by omega⟩ (Rel.reset' (by simp [resT, bdA]) (by simp [resM, bdB, bdA.bdL, bdA]))
    intro j B hB
    obtain ⟨j, hj⟩ := j
    refine CW.run 300 rfl ?_
    simp [Try.ntmps7, Try.results7]
    refine run_br_split (fun h => ?_) (fun h => ?_)
    · simp only [decide_eq_true_eq] at h
      have hg : goodB ⟨0, 0, j, 0, false, false, false, false, M⟩ = true := by
        rw [goodB_is (by simp) (by simp) (by simp) (by simp), soundB_mk]; omega
      have hs : soundB ⟨0, 0, j, 0, M⟩ = true := by rw [soundB_mk]; omega
      by_cases hm : j = M
      · subst hm
        have e2 : push ⟨0, 0, j, 0, false, false, false, false, j⟩ 2 = (⟨0, 0, j, 0, false, false, false, false, j⟩, 0, 14) := by simp [push, outF, hg, pushQ, Ou.open', Ou.last, kindB]
        simp [Try.ntmps7, Try.results7]
        refine CW.call (push_w _ _ _ _ _ _ _ _ _ _) (fun _ _ => by simp [Try.call9]) rfl rfl rfl (by first | exact .inl rfl | exact .inr ⟨_, _, rfl, by simp []⟩) rfl rfl rfl (CW.runOps 300 rfl ?_)
        simp [e2, Try.ntmps7, Try.results7]
        repeat' first
          | (refine run_gd_split (fun h => ?_) (fun h => ?_) <;> simp [h, Try.ntmps7, Try.results7])
          | (refine run_br_split (fun h => ?_) (fun h => ?_) <;> simp [h, Try.ntmps7, Try.results7])
          | (refine ⟨by decide +kernel, ?_⟩)
          | (refine LoopW.unroll mixed (Plain.ret _ _ _) rfl (CW.run 300 rfl ?_); simp [*, Try.ntmps7, Try.results7])
        all_goals exact Sub.of_eq rfl rfl
      · have e2 : push ⟨0, 0, j, 0, false, false, false, false, M⟩ 2 = (⟨0, 0, j + 1, 0, false, false, true, false, M⟩, j + 1, 0) := by simp [push, outF, hg, pushQ, Ou.open', Ou.last, Ou.set, kindB, hm]
        have hp : goodB ⟨0, 0, j + 1, 0, false, false, true, false, M⟩ = true := by
          rw [goodB_is (by first | (intro _; omega) | simp) (by first | (intro _; omega) | simp) (by first | (intro _; omega) | simp) (by first | (intro _; omega) | simp), soundB_mk]; omega
        have e3 : take ⟨0, 0, j, 0, M⟩ 2 (j + 1) = (⟨0, 0, j + 1, 0, M⟩, 0) := by
          have h1 : ¬ (j + 1 = j) := by omega
          have h2 : ¬ (M < j + 1) := by omega
          simp [take, inF, hs, takeQ, Nn.last, Nn.set, kindB, h1, h2]
        have e5 : done ⟨0, 0, j + 1, 0, false, false, true, false, M⟩ 2 (j + 1) = (⟨0, 0, j + 1, 0, false, false, false, false, M⟩, 0) := by simp [done, outF, hp, doneQ, Ou.open', Ou.last, Ou.set, kindB]
        have hw : IntKind.wrap .i64 (j + 1) = j + 1 := wrap_i64 (by omega) (by omega)
        have hle : ¬ (M ≤ j) := by omega
        simp [Try.ntmps7, Try.results7]
        refine CW.call (push_w _ _ _ _ _ _ _ _ _ _) (fun _ _ => by simp [Try.call9]) rfl rfl rfl (by first | exact .inl rfl | exact .inr ⟨_, _, rfl, by simp []⟩) rfl rfl rfl (CW.runOps 300 rfl ?_)
        simp [e2, hle, Try.ntmps7, Try.results7]
        refine CW.call (take_w _ _ _ _ _ _ _) (fun _ _ => by simp [Try.call14]) rfl rfl rfl (by first | exact .inl rfl | exact .inr ⟨_, _, rfl, by simp []⟩) rfl rfl rfl (CW.runOps 300 rfl ?_)
        simp [e3, Try.ntmps7, Try.results7]
        refine CW.call (done_w _ _ _ _ _ _ _ _ _ _ _) (fun _ _ => by simp [Try.call12]) rfl rfl rfl (by first | exact .inl rfl | exact .inr ⟨_, _, rfl, by simp []⟩) rfl rfl rfl (CW.runOps 300 rfl ?_)
        simp [e5, hw, Try.ntmps7, Try.results7]
        repeat' first
          | (refine run_gd_split (fun h => ?_) (fun h => ?_) <;> simp [h, hw, Try.ntmps7, Try.results7])
          | (refine run_br_split (fun h => ?_) (fun h => ?_) <;> simp [h, hw, Try.ntmps7, Try.results7])
          | (refine ⟨by decide +kernel, ?_⟩)
          | (refine LoopW.unroll mixed (Plain.ret _ _ _) rfl (CW.run 300 rfl ?_); simp [*, hw, Try.ntmps7, Try.results7])
        exact hB _ ⟨j + 1, by omega⟩ (Rel.reset' (by simp [resT, bdA]) (by simp [resM, bdB, bdA.bdL, bdA])) (by show (q - (j + 1)).toNat < (q - j).toNat; omega)
    · have hj' : j = q := by simp only [decide_eq_false_iff_not] at h; omega
      subst hj'
      simp [Try.ntmps7, Try.results7]
      repeat' first
        | (refine run_gd_split (fun h => ?_) (fun h => ?_) <;> simp [h, Try.ntmps7, Try.results7])
        | (refine run_br_split (fun h => ?_) (fun h => ?_) <;> simp [h, Try.ntmps7, Try.results7])
        | (refine ⟨by decide +kernel, ?_⟩)
        | (refine LoopW.unroll mixed (Plain.ret _ _ _) rfl (CW.run 300 rfl ?_); simp [*, Try.ntmps7, Try.results7])
      all_goals exact Sub.of_eq rfl rfl
  · refine LoopW.of mixed (Plain.ret _ _ _) rfl (ι := { j : Int // 0 ≤ j ∧ j ≤ q ∧ j ≤ M })
      (fun j => ⟨[(13, int j.1), (12, int q), (11, int M), (10, int 3), (9, .ptr 576 0), (8, .ptr 512 0), (7, bool true)], [(576, some (.cells [int 0, int 0, int 0, int j.1, int M] 40)), (512, some (.cells [int 0, int 0, int 0, int j.1, bool false, bool false, bool false, bool false, int M] 29))], 1472⟩)
      (fun j => (q - j.1).toNat) ?_ ⟨0, by omega⟩ (Rel.reset' (by simp [resT, bdA]) (by simp [resM, bdB, bdA.bdL, bdA]))
    intro j B hB
    obtain ⟨j, hj⟩ := j
    refine CW.run 300 rfl ?_
    simp [Try.ntmps7, Try.results7]
    refine run_br_split (fun h => ?_) (fun h => ?_)
    · simp only [decide_eq_true_eq] at h
      have hg : goodB ⟨0, 0, 0, j, false, false, false, false, M⟩ = true := by
        rw [goodB_is (by simp) (by simp) (by simp) (by simp), soundB_mk]; omega
      have hs : soundB ⟨0, 0, 0, j, M⟩ = true := by rw [soundB_mk]; omega
      by_cases hm : j = M
      · subst hm
        have e2 : push ⟨0, 0, 0, j, false, false, false, false, j⟩ 3 = (⟨0, 0, 0, j, false, false, false, false, j⟩, 0, 14) := by simp [push, outF, hg, pushQ, Ou.open', Ou.last, kindB]
        simp [Try.ntmps7, Try.results7]
        refine CW.call (push_w _ _ _ _ _ _ _ _ _ _) (fun _ _ => by simp [Try.call9]) rfl rfl rfl (by first | exact .inl rfl | exact .inr ⟨_, _, rfl, by simp []⟩) rfl rfl rfl (CW.runOps 300 rfl ?_)
        simp [e2, Try.ntmps7, Try.results7]
        repeat' first
          | (refine run_gd_split (fun h => ?_) (fun h => ?_) <;> simp [h, Try.ntmps7, Try.results7])
          | (refine run_br_split (fun h => ?_) (fun h => ?_) <;> simp [h, Try.ntmps7, Try.results7])
          | (refine ⟨by decide +kernel, ?_⟩)
          | (refine LoopW.unroll mixed (Plain.ret _ _ _) rfl (CW.run 300 rfl ?_); simp [*, Try.ntmps7, Try.results7])
        all_goals exact Sub.of_eq rfl rfl
      · have e2 : push ⟨0, 0, 0, j, false, false, false, false, M⟩ 3 = (⟨0, 0, 0, j + 1, false, false, false, true, M⟩, j + 1, 0) := by simp [push, outF, hg, pushQ, Ou.open', Ou.last, Ou.set, kindB, hm]
        have hp : goodB ⟨0, 0, 0, j + 1, false, false, false, true, M⟩ = true := by
          rw [goodB_is (by first | (intro _; omega) | simp) (by first | (intro _; omega) | simp) (by first | (intro _; omega) | simp) (by first | (intro _; omega) | simp), soundB_mk]; omega
        have e3 : take ⟨0, 0, 0, j, M⟩ 3 (j + 1) = (⟨0, 0, 0, j + 1, M⟩, 0) := by
          have h1 : ¬ (j + 1 = j) := by omega
          have h2 : ¬ (M < j + 1) := by omega
          simp [take, inF, hs, takeQ, Nn.last, Nn.set, kindB, h1, h2]
        have e5 : done ⟨0, 0, 0, j + 1, false, false, false, true, M⟩ 3 (j + 1) = (⟨0, 0, 0, j + 1, false, false, false, false, M⟩, 0) := by simp [done, outF, hp, doneQ, Ou.open', Ou.last, Ou.set, kindB]
        have hw : IntKind.wrap .i64 (j + 1) = j + 1 := wrap_i64 (by omega) (by omega)
        have hle : ¬ (M ≤ j) := by omega
        simp [Try.ntmps7, Try.results7]
        refine CW.call (push_w _ _ _ _ _ _ _ _ _ _) (fun _ _ => by simp [Try.call9]) rfl rfl rfl (by first | exact .inl rfl | exact .inr ⟨_, _, rfl, by simp []⟩) rfl rfl rfl (CW.runOps 300 rfl ?_)
        simp [e2, hle, Try.ntmps7, Try.results7]
        refine CW.call (take_w _ _ _ _ _ _ _) (fun _ _ => by simp [Try.call14]) rfl rfl rfl (by first | exact .inl rfl | exact .inr ⟨_, _, rfl, by simp []⟩) rfl rfl rfl (CW.runOps 300 rfl ?_)
        simp [e3, Try.ntmps7, Try.results7]
        refine CW.call (done_w _ _ _ _ _ _ _ _ _ _ _) (fun _ _ => by simp [Try.call12]) rfl rfl rfl (by first | exact .inl rfl | exact .inr ⟨_, _, rfl, by simp []⟩) rfl rfl rfl (CW.runOps 300 rfl ?_)
        simp [e5, hw, Try.ntmps7, Try.results7]
        repeat' first
          | (refine run_gd_split (fun h => ?_) (fun h => ?_) <;> simp [h, hw, Try.ntmps7, Try.results7])
          | (refine run_br_split (fun h => ?_) (fun h => ?_) <;> simp [h, hw, Try.ntmps7, Try.results7])
          | (refine ⟨by decide +kernel, ?_⟩)
          | (refine LoopW.unroll mixed (Plain.ret _ _ _) rfl (CW.run 300 rfl ?_); simp [*, hw, Try.ntmps7, Try.results7])
        exact hB _ ⟨j + 1, by omega⟩ (Rel.reset' (by simp [resT, bdA]) (by simp [resM, bdB, bdA.bdL, bdA])) (by show (q - (j + 1)).toNat < (q - j).toNat; omega)
    · have hj' : j = q := by simp only [decide_eq_false_iff_not] at h; omega
      subst hj'
      simp [Try.ntmps7, Try.results7]
      repeat' first
        | (refine run_gd_split (fun h => ?_) (fun h => ?_) <;> simp [h, Try.ntmps7, Try.results7])
        | (refine run_br_split (fun h => ?_) (fun h => ?_) <;> simp [h, Try.ntmps7, Try.results7])
        | (refine ⟨by decide +kernel, ?_⟩)
        | (refine LoopW.unroll mixed (Plain.ret _ _ _) rfl (CW.run 300 rfl ?_); simp [*, Try.ntmps7, Try.results7])
      all_goals exact Sub.of_eq rfl rfl
end Go.Proofs.Ytipkcdjpaneimaa

