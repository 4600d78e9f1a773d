/-
  LAYER 13: the walk of NonceKinds: it answers true, whatever it is given.
-/
import Derived.Test.YtipkcdjpaneimaaNW3
set_option linter.unusedSimpArgs false
set_option linter.unusedVariables false
namespace Go.Proofs.Ytipkcdjpaneimaa
open Go.AI Go.Nonce
set_option maxRecDepth 20000
set_option maxHeartbeats 4000000


-- groyne/groynelaw13.NonceKinds
theorem nonceKinds (a b c d : Int) (x y z t : Bool) (m : Int) (A B C D M k n r : Int) : CtP Try.prog 6 [ouL a b c d x y z t m, nnL A B C D M, int k, int n, int r] (bool true) := by
  refine CtP.of_body Try.func6 rfl mixed (by rw [Try.ntmps6]; simp) (CW.run 500 rfl ?_)
  simp [Try.ntmps6, Try.results6]
  refine CW.call (awake) (fun _ _ => by simp [Try.call8]) rfl rfl rfl (by first | exact .inl rfl | exact .inr ⟨_, _, rfl, by simp []⟩) rfl rfl rfl (CW.runOps 300 rfl ?_)
  simp [Try.ntmps6, Try.results6]
  refine CW.call (ours _ _ _ _ _ _ _ _ _) (fun _ _ => by simp [Try.call10]) rfl rfl rfl (by first | exact .inl rfl | exact .inr ⟨_, _, rfl, by simp []⟩) rfl rfl rfl (CW.runOps 300 rfl ?_)
  simp [Try.ntmps6, Try.results6]
  refine CW.call (mine _ _ _ _ _) (fun _ _ => by simp [Try.call15]) rfl rfl rfl (by first | exact .inl rfl | exact .inr ⟨_, _, rfl, by simp []⟩) rfl rfl rfl (CW.runOps 300 rfl ?_)
  simp [Try.ntmps6, Try.results6]
  refine CW.call (good _ _ _ _ _ _ _ _ _) (fun _ _ => by simp [Try.call19]) rfl rfl rfl (by first | exact .inl rfl | exact .inr ⟨_, _, rfl, by simp []⟩) rfl rfl rfl (CW.runOps 300 rfl ?_)
  simp [Try.ntmps6, Try.results6]
  by_cases hg : goodB ⟨a, b, c, d, x, y, z, t, m⟩ = true
  rotate_left
  · simp [hg, Try.ntmps6, Try.results6]
    repeat' first
      | (refine run_gd_split (fun h => ?_) (fun h => ?_) <;> simp [h, Try.ntmps6, Try.results6])
      | (refine run_br_split (fun h => ?_) (fun h => ?_) <;> simp [h, Try.ntmps6, Try.results6])
      | (refine ⟨by decide +kernel, ?_⟩)
      | (refine LoopW.unroll mixed (Plain.ret _ _ _) rfl (CW.run 300 rfl ?_); simp [*, Try.ntmps6, Try.results6])
    all_goals exact Sub.of_eq rfl rfl
  simp [hg, Try.ntmps6, Try.results6]
  refine CW.call (sound _ _ _ _ _) (fun _ _ => by simp [Try.call21]) rfl rfl rfl (by first | exact .inl rfl | exact .inr ⟨_, _, rfl, by simp [hg]⟩) rfl rfl rfl (CW.runOps 300 rfl ?_)
  by_cases hs : soundB ⟨A, B, C, D, M⟩ = true
  rotate_left
  · simp [hg, hs, Try.ntmps6, Try.results6]
    repeat' first
      | (refine run_gd_split (fun h => ?_) (fun h => ?_) <;> simp [h, Try.ntmps6, Try.results6])
      | (refine run_br_split (fun h => ?_) (fun h => ?_) <;> simp [h, Try.ntmps6, Try.results6])
      | (refine ⟨by decide +kernel, ?_⟩)
      | (refine LoopW.unroll mixed (Plain.ret _ _ _) rfl (CW.run 300 rfl ?_); simp [*, Try.ntmps6, Try.results6])
    all_goals exact Sub.of_eq rfl rfl
  simp [hg, hs, Try.ntmps6, Try.results6]
  refine CW.call (push_w _ _ _ _ _ _ _ _ _ _) (fun _ _ => by simp [Try.call9]) rfl rfl rfl (by first | exact .inl rfl | exact .inr ⟨_, _, rfl, by simp []⟩) rfl rfl rfl (CW.runOps 300 rfl ?_)
  simp [Try.ntmps6, Try.results6]
  refine CW.call (done_w _ _ _ _ _ _ _ _ _ _ _) (fun _ _ => by simp [Try.call12]) rfl rfl rfl (by first | exact .inl rfl | exact .inr ⟨_, _, rfl, by simp []⟩) rfl rfl rfl (CW.runOps 300 rfl ?_)
  simp [Try.ntmps6, Try.results6]
  refine CW.call (take_w _ _ _ _ _ _ _) (fun _ _ => by simp [Try.call14]) rfl rfl rfl (by first | exact .inl rfl | exact .inr ⟨_, _, rfl, by simp []⟩) rfl rfl rfl (CW.runOps 300 rfl ?_)
  simp [Try.ntmps6, Try.results6]
  have e1 : push ⟨a, b, c, d, x, y, z, t, m⟩ k = pushQ ⟨a, b, c, d, x, y, z, t, m⟩ k := by simp [push, outF, hg]
  have e2 : done ⟨a, b, c, d, x, y, z, t, m⟩ k n = doneQ ⟨a, b, c, d, x, y, z, t, m⟩ k n := by simp [done, outF, hg]
  have e3 : take ⟨A, B, C, D, M⟩ k n = takeQ ⟨A, B, C, D, M⟩ k n := by simp [take, inF, hs]
  rw [e1, e2, e3]
  clear e1 e2 e3 hg hs
  by_cases hk : kindB k = true
  rotate_left
  · have hk' : k < 0 ∨ 4 ≤ k := by simp only [kindB, Bool.and_eq_true, decide_eq_true_iff] at hk; omega
    simp only [pushQ, doneQ, takeQ, eq_false_of_ne_true hk, if_true]
    repeat' first
      | (refine run_gd_split (fun h => ?_) (fun h => ?_) <;> simp [h, Try.ntmps6, Try.results6])
      | (refine run_br_split (fun h => ?_) (fun h => ?_) <;> simp [h, Try.ntmps6, Try.results6])
      | (refine ⟨by decide +kernel, ?_⟩)
      | (refine LoopW.unroll mixed (Plain.ret _ _ _) rfl (CW.run 300 rfl ?_); simp [*, Try.ntmps6, Try.results6])
    all_goals
      first
        | (exact Sub.of_eq rfl rfl)
        | (exfalso; simp only [decide_eq_true_iff, decide_eq_false_iff_not] at *; omega)
  have h1 := pushQ_keep ⟨a, b, c, d, x, y, z, t, m⟩ k
  have h2 := doneQ_keep ⟨a, b, c, d, x, y, z, t, m⟩ k n
  have h3 := takeQ_keep ⟨A, B, C, D, M⟩ k n
  generalize pushQ ⟨a, b, c, d, x, y, z, t, m⟩ k = P at h1 ⊢
  generalize doneQ ⟨a, b, c, d, x, y, z, t, m⟩ k n = Q at h2 ⊢
  generalize takeQ ⟨A, B, C, D, M⟩ k n = R at h3 ⊢
  obtain ⟨⟨P1, P2, P3, P4, P5, P6, P7, P8, P9⟩, P10, P11⟩ := P
  obtain ⟨⟨Q1, Q2, Q3, Q4, Q5, Q6, Q7, Q8, Q9⟩, Q10⟩ := Q
  obtain ⟨⟨R1, R2, R3, R4, R5⟩, R6⟩ := R
  have hr := and3 r
  generalize hrr : andK .i64 r 3 = rr at hr
  rcases kindB_is hk with rfl | rfl | rfl | rfl
  all_goals simp [hk] at h1 h2 h3
  all_goals rcases hr with rfl | rfl | rfl | rfl
  all_goals
    simp only [h1, h2, h3]
    clear h1 h2 h3
    simp [hrr, Try.ntmps6, Try.results6]
    repeat' first
      | (refine run_gd_split (fun h => ?_) (fun h => ?_) <;> simp [h, hrr, Try.ntmps6, Try.results6])
      | (refine run_br_split (fun h => ?_) (fun h => ?_) <;> simp [h, hrr, Try.ntmps6, Try.results6])
      | (refine ⟨by decide +kernel, ?_⟩)
      | (refine LoopW.unroll mixed (Plain.ret _ _ _) rfl (CW.run 300 rfl ?_); simp [*, hrr, Try.ntmps6, Try.results6])
  all_goals exact Sub.of_eq rfl rfl
end Go.Proofs.Ytipkcdjpaneimaa

