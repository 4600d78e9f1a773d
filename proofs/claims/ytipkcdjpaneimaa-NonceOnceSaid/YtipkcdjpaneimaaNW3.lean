/-
  LAYER 13: the walks of ours, mine and awake.
-/
import Derived.Test.YtipkcdjpaneimaaNW2
import Derived.Test.YtipkcdjpaneimaaAi2
set_option linter.unusedSimpArgs false
set_option linter.unusedVariables false
namespace Go.Proofs.Ytipkcdjpaneimaa
open Go.AI Go.Nonce

-- groyne/groynelaw13.ours
theorem ours (a b c d : Int) (x y z t : Bool) (m : Int) : CtP Try.prog 10 [ouL a b c d x y z t m] (ouL a b c d x y z t m) := by
  refine CtP.of_body Try.func10 rfl mixed (by rw [Try.ntmps10]; simp) (CW.run 300 rfl ?_)
  simp [Try.ntmps10, Try.results10]
  exact Sub.of_eq rfl rfl

-- groyne/groynelaw13.mine
theorem mine (a b c d m : Int) : CtP Try.prog 15 [nnL a b c d m] (nnL a b c d m) := by
  refine CtP.of_body Try.func15 rfl mixed (by rw [Try.ntmps15]; simp) (CW.run 300 rfl ?_)
  simp [Try.ntmps15, Try.results15]
  exact Sub.of_eq rfl rfl

theorem startO9 : startO 9 = ⟨0, 0, 0, 0, false, false, false, false, 9⟩ := by decide
theorem startI9 : startI 9 = ⟨0, 0, 0, 0, 9⟩ := by decide
theorem push9 : push ⟨0, 0, 0, 0, false, false, false, false, 9⟩ 2 = (⟨0, 0, 1, 0, false, false, true, false, 9⟩, 1, 0) := by decide
theorem take9 : take ⟨0, 0, 0, 0, 9⟩ 2 1 = (⟨0, 0, 1, 0, 9⟩, 0) := by decide
theorem take9' : take ⟨0, 0, 1, 0, 9⟩ 2 1 = (⟨0, 0, 1, 0, 9⟩, 9) := by decide
theorem good9 : goodB ⟨0, 0, 1, 0, false, false, true, false, 9⟩ = true := by decide
theorem sound9 : soundB ⟨0, 0, 1, 0, 9⟩ = true := by decide

-- groyne/groynelaw13.awake
theorem awake : CtP Try.prog 8 [] (bool true) := by
  refine CtP.of_body Try.func8 rfl mixed (by rw [Try.ntmps8]; simp) (CW.run 300 rfl ?_)
  simp [Try.ntmps8, Try.results8]
  refine CW.call (start _) (fun _ _ => by simp [Try.call17]) rfl rfl rfl (by first | exact .inl rfl | exact .inr ⟨_, _, rfl, by simp []⟩) rfl rfl rfl (CW.runOps 300 rfl ?_)
  simp [startO9, startI9, Try.ntmps8, Try.results8]
  refine CW.call (push_w _ _ _ _ _ _ _ _ _ _) (fun _ _ => by simp [Try.call9]) rfl rfl rfl (by first | exact .inl rfl | exact .inr ⟨_, _, rfl, by simp []⟩) rfl rfl rfl (CW.runOps 300 rfl ?_)
  simp [push9, Try.ntmps8, Try.results8]
  refine CW.call (take_w _ _ _ _ _ _ _) (fun _ _ => by simp [Try.call14]) rfl rfl rfl (by first | exact .inl rfl | exact .inr ⟨_, _, rfl, by simp []⟩) rfl rfl rfl (CW.runOps 300 rfl ?_)
  simp [take9, Try.ntmps8, Try.results8]
  refine CW.call (take_w _ _ _ _ _ _ _) (fun _ _ => by simp [Try.call14]) rfl rfl rfl (by first | exact .inl rfl | exact .inr ⟨_, _, rfl, by simp []⟩) rfl rfl rfl (CW.runOps 300 rfl ?_)
  simp [take9', Try.ntmps8, Try.results8]
  repeat' first
    | (refine run_gd_split (fun h => ?_) (fun h => ?_) <;> simp [h, good9, sound9, Try.ntmps8, Try.results8])
    | (refine run_br_split (fun h => ?_) (fun h => ?_) <;> simp [h, good9, sound9, Try.ntmps8, Try.results8])
    | (refine ⟨by decide +kernel, ?_⟩)
    | (refine LoopW.unroll mixed (Plain.ret _ _ _) rfl (CW.run 300 rfl ?_); simp [*, good9, sound9, Try.ntmps8, Try.results8])
    | (refine CW.call (good _ _ _ _ _ _ _ _ _) (fun _ _ => by simp [Try.call19]) rfl rfl rfl (by first | exact .inl rfl | exact .inr ⟨_, _, rfl, by simp [*]⟩) rfl rfl rfl (CW.runOps 300 rfl ?_); simp [*, good9, sound9, Try.ntmps8, Try.results8])
    | (refine CW.call (sound _ _ _ _ _) (fun _ _ => by simp [Try.call21]) rfl rfl rfl (by first | exact .inl rfl | exact .inr ⟨_, _, rfl, by simp [*]⟩) rfl rfl rfl (CW.runOps 300 rfl ?_); simp [*, good9, sound9, Try.ntmps8, Try.results8])
  all_goals exact Sub.of_eq rfl rfl

end Go.Proofs.Ytipkcdjpaneimaa

