/-
  LAYER 13: the walk of NonceIs: it answers true, whatever it is given.
-/
import Derived.Test.YtipkcdjpaneimaaNW3
set_option linter.unusedSimpArgs false
set_option linter.unusedVariables false
namespace Go.Proofs.Ytipkcdjpaneimaa
open Go.AI Go.Nonce


-- groyne/groynelaw13.NonceIs
theorem nonceIs (a b c d : Int) (x y z t : Bool) (m : Int) (A B C D M k n : Int) : CtP Try.prog 3 [ouL a b c d x y z t m, nnL A B C D M, int k, int n] (bool true) := by
  refine CtP.of_body Try.func3 rfl mixed (by rw [Try.ntmps3]; simp) (CW.run 500 rfl ?_)
  simp [Try.ntmps3, Try.results3]
  refine CW.call (awake) (fun _ _ => by simp [Try.call8]) rfl rfl rfl (by first | exact .inl rfl | exact .inr ⟨_, _, rfl, by simp []⟩) rfl rfl rfl (CW.runOps 300 rfl ?_)
  simp [Try.ntmps3, Try.results3]
  refine CW.call (ours _ _ _ _ _ _ _ _ _) (fun _ _ => by simp [Try.call10]) rfl rfl rfl (by first | exact .inl rfl | exact .inr ⟨_, _, rfl, by simp []⟩) rfl rfl rfl (CW.runOps 300 rfl ?_)
  simp [Try.ntmps3, Try.results3]
  refine CW.call (push_w _ _ _ _ _ _ _ _ _ _) (fun _ _ => by simp [Try.call9]) rfl rfl rfl (by first | exact .inl rfl | exact .inr ⟨_, _, rfl, by simp []⟩) rfl rfl rfl (CW.runOps 300 rfl ?_)
  simp [Try.ntmps3, Try.results3]
  refine CW.call (pushR_w _ _ _ _ _ _ _ _ _ _) (fun _ _ => by simp [Try.call11]) rfl rfl rfl (by first | exact .inl rfl | exact .inr ⟨_, _, rfl, by simp []⟩) rfl rfl rfl (CW.runOps 300 rfl ?_)
  simp [Try.ntmps3, Try.results3]
  refine CW.call (ours _ _ _ _ _ _ _ _ _) (fun _ _ => by simp [Try.call10]) rfl rfl rfl (by first | exact .inl rfl | exact .inr ⟨_, _, rfl, by simp []⟩) rfl rfl rfl (CW.runOps 300 rfl ?_)
  simp [Try.ntmps3, Try.results3]
  refine CW.call (done_w _ _ _ _ _ _ _ _ _ _ _) (fun _ _ => by simp [Try.call12]) rfl rfl rfl (by first | exact .inl rfl | exact .inr ⟨_, _, rfl, by simp []⟩) rfl rfl rfl (CW.runOps 300 rfl ?_)
  simp [Try.ntmps3, Try.results3]
  refine CW.call (doneR_w _ _ _ _ _ _ _ _ _ _ _) (fun _ _ => by simp [Try.call13]) rfl rfl rfl (by first | exact .inl rfl | exact .inr ⟨_, _, rfl, by simp []⟩) rfl rfl rfl (CW.runOps 300 rfl ?_)
  simp [Try.ntmps3, Try.results3]
  refine CW.call (mine _ _ _ _ _) (fun _ _ => by simp [Try.call15]) rfl rfl rfl (by first | exact .inl rfl | exact .inr ⟨_, _, rfl, by simp []⟩) rfl rfl rfl (CW.runOps 300 rfl ?_)
  simp [Try.ntmps3, Try.results3]
  refine CW.call (take_w _ _ _ _ _ _ _) (fun _ _ => by simp [Try.call14]) rfl rfl rfl (by first | exact .inl rfl | exact .inr ⟨_, _, rfl, by simp []⟩) rfl rfl rfl (CW.runOps 300 rfl ?_)
  simp [Try.ntmps3, Try.results3]
  refine CW.call (takeR_w _ _ _ _ _ _ _) (fun _ _ => by simp [Try.call16]) rfl rfl rfl (by first | exact .inl rfl | exact .inr ⟨_, _, rfl, by simp []⟩) rfl rfl rfl (CW.runOps 300 rfl ?_)
  simp [Try.ntmps3, Try.results3]
  refine CW.call (start _) (fun _ _ => by simp [Try.call17]) rfl rfl rfl (by first | exact .inl rfl | exact .inr ⟨_, _, rfl, by simp []⟩) rfl rfl rfl (CW.runOps 300 rfl ?_)
  simp [Try.ntmps3, Try.results3]
  refine CW.call (startR _) (fun _ _ => by simp [Try.call18]) rfl rfl rfl (by first | exact .inl rfl | exact .inr ⟨_, _, rfl, by simp []⟩) rfl rfl rfl (CW.runOps 300 rfl ?_)
  simp [Try.ntmps3, Try.results3]
  generalize push ⟨a, b, c, d, x, y, z, t, m⟩ k = P
  generalize done ⟨a, b, c, d, x, y, z, t, m⟩ k n = Q
  generalize take ⟨A, B, C, D, M⟩ k n = R
  generalize startO n = S
  generalize startI n = T
  obtain ⟨⟨P1, P2, P3, P4, P5, P6, P7, P8, P9⟩, P10, P11⟩ := P
  obtain ⟨⟨Q1, Q2, Q3, Q4, Q5, Q6, Q7, Q8, Q9⟩, Q10⟩ := Q
  obtain ⟨⟨R1, R2, R3, R4, R5⟩, R6⟩ := R
  obtain ⟨S1, S2, S3, S4, S5, S6, S7, S8, S9⟩ := S
  obtain ⟨T1, T2, T3, T4, T5⟩ := T
  repeat' first
    | (refine run_gd_split (fun h => ?_) (fun h => ?_) <;> simp [h, Try.ntmps3, Try.results3])
    | (refine run_br_split (fun h => ?_) (fun h => ?_) <;> simp [h, Try.ntmps3, Try.results3])
    | (refine ⟨by decide +kernel, ?_⟩)
    | (refine LoopW.unroll mixed (Plain.ret _ _ _) rfl (CW.run 300 rfl ?_); simp [*, Try.ntmps3, Try.results3])
    | (refine CW.call (ours _ _ _ _ _ _ _ _ _) (fun _ _ => by simp [Try.call10]) rfl rfl rfl (by first | exact .inl rfl | exact .inr ⟨_, _, rfl, by simp [*]⟩) rfl rfl rfl (CW.runOps 300 rfl ?_); simp [*, Try.ntmps3, Try.results3])
    | (refine CW.call (mine _ _ _ _ _) (fun _ _ => by simp [Try.call15]) rfl rfl rfl (by first | exact .inl rfl | exact .inr ⟨_, _, rfl, by simp [*]⟩) rfl rfl rfl (CW.runOps 300 rfl ?_); simp [*, Try.ntmps3, Try.results3])
    | (refine CW.call (good _ _ _ _ _ _ _ _ _) (fun _ _ => by simp [Try.call19]) rfl rfl rfl (by first | exact .inl rfl | exact .inr ⟨_, _, rfl, by simp [*]⟩) rfl rfl rfl (CW.runOps 300 rfl ?_); simp [*, Try.ntmps3, Try.results3])
    | (refine CW.call (goodR _ _ _ _ _ _ _ _ _) (fun _ _ => by simp [Try.call20]) rfl rfl rfl (by first | exact .inl rfl | exact .inr ⟨_, _, rfl, by simp [*]⟩) rfl rfl rfl (CW.runOps 300 rfl ?_); simp [*, Try.ntmps3, Try.results3])
    | (refine CW.call (sound _ _ _ _ _) (fun _ _ => by simp [Try.call21]) rfl rfl rfl (by first | exact .inl rfl | exact .inr ⟨_, _, rfl, by simp [*]⟩) rfl rfl rfl (CW.runOps 300 rfl ?_); simp [*, Try.ntmps3, Try.results3])
    | (refine CW.call (soundR _ _ _ _ _) (fun _ _ => by simp [Try.call22]) rfl rfl rfl (by first | exact .inl rfl | exact .inr ⟨_, _, rfl, by simp [*]⟩) rfl rfl rfl (CW.runOps 300 rfl ?_); simp [*, Try.ntmps3, Try.results3])
  all_goals exact Sub.of_eq rfl rfl
end Go.Proofs.Ytipkcdjpaneimaa

