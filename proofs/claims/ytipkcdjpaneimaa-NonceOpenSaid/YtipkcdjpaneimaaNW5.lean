/-
  LAYER 13: the walk of NonceOpen: it answers true, whatever it is given.
-/
import Derived.Test.YtipkcdjpaneimaaNW3
set_option linter.unusedSimpArgs false
set_option linter.unusedVariables false
namespace Go.Proofs.Ytipkcdjpaneimaa
open Go.AI Go.Nonce
set_option maxRecDepth 20000
set_option maxHeartbeats 4000000


-- groyne/groynelaw13.NonceOpen
theorem nonceOpen (a b c d : Int) (x y z t : Bool) (m k n : Int) : CtP Try.prog 5 [ouL a b c d x y z t m, int k, int n] (bool true) := by
  refine CtP.of_body Try.func5 rfl mixed (by rw [Try.ntmps5]; simp) (CW.run 500 rfl ?_)
  simp [Try.ntmps5, Try.results5]
  refine CW.call (awake) (fun _ _ => by simp [Try.call8]) rfl rfl rfl (by first | exact .inl rfl | exact .inr ⟨_, _, rfl, by simp []⟩) rfl rfl rfl (CW.runOps 300 rfl ?_)
  simp [Try.ntmps5, Try.results5]
  have hr := and3 k
  generalize hrr : andK .i64 k 3 = r at hr
  refine CW.call (ours _ _ _ _ _ _ _ _ _) (fun _ _ => by simp [Try.call10]) rfl rfl rfl (by first | exact .inl rfl | exact .inr ⟨_, _, rfl, by simp [hrr]⟩) rfl rfl rfl (CW.runOps 300 rfl ?_)
  simp [hrr, Try.ntmps5, Try.results5]
  refine CW.call (good _ _ _ _ _ _ _ _ _) (fun _ _ => by simp [Try.call19]) rfl rfl rfl (by first | exact .inl rfl | exact .inr ⟨_, _, rfl, by simp [hrr]⟩) rfl rfl rfl (CW.runOps 300 rfl ?_)
  by_cases hg : goodB ⟨a, b, c, d, x, y, z, t, m⟩ = true
  rotate_left
  · simp [hg, Try.ntmps5, Try.results5]
    repeat' first
      | (refine run_gd_split (fun h => ?_) (fun h => ?_) <;> simp [h, Try.ntmps5, Try.results5])
      | (refine run_br_split (fun h => ?_) (fun h => ?_) <;> simp [h, Try.ntmps5, Try.results5])
      | (refine ⟨by decide +kernel, ?_⟩)
      | (refine LoopW.unroll mixed (Plain.ret _ _ _) rfl (CW.run 300 rfl ?_); simp [*, Try.ntmps5, Try.results5])
    all_goals exact Sub.of_eq rfl rfl
  simp [hg, Try.ntmps5, Try.results5]
  refine CW.call (push_w _ _ _ _ _ _ _ _ _ _) (fun _ _ => by simp [Try.call9]) rfl rfl rfl (by first | exact .inl rfl | exact .inr ⟨_, _, rfl, by simp []⟩) rfl rfl rfl (CW.runOps 300 rfl ?_)
  simp [Try.ntmps5, Try.results5]
  have e1 : push ⟨a, b, c, d, x, y, z, t, m⟩ r = pushQ ⟨a, b, c, d, x, y, z, t, m⟩ r := by simp [push, outF, hg]
  rw [e1]
  clear e1
  simp only [goodB, Ou.toI, soundB_mk, Bool.and_eq_true, Bool.not_eq_true', Bool.and_eq_false_iff, decide_eq_false_iff_not] at hg
  obtain ⟨⟨⟨⟨g0, g1⟩, g2⟩, g3⟩, gs⟩ := hg
  rcases hr with rfl | rfl | rfl | rfl
  · cases x
    · by_cases hm : a = m
      · have e2 : pushQ ⟨a, b, c, d, false, y, z, t, m⟩ 0 = (⟨a, b, c, d, false, y, z, t, m⟩, 0, 14) := by simp [pushQ, Ou.open', Ou.last, kindB, hm]
        rw [e2]
        clear gs g0 g1 g2 g3
        subst hm
        simp [Try.ntmps5, Try.results5]
        repeat' first
          | (refine run_gd_split (fun h => ?_) (fun h => ?_) <;> simp [h, Try.ntmps5, Try.results5])
          | (refine run_br_split (fun h => ?_) (fun h => ?_) <;> simp [h, Try.ntmps5, Try.results5])
          | (refine ⟨by decide +kernel, ?_⟩)
          | (refine LoopW.unroll mixed (Plain.ret _ _ _) rfl (CW.run 300 rfl ?_); simp [*, Try.ntmps5, Try.results5])
        all_goals exact Sub.of_eq rfl rfl
      · have e2 : pushQ ⟨a, b, c, d, false, y, z, t, m⟩ 0 = (⟨a + 1, b, c, d, true, y, z, t, m⟩, a + 1, 0) := by simp [pushQ, Ou.open', Ou.last, Ou.set, kindB, hm]
        have hp : goodB ⟨a + 1, b, c, d, true, y, z, t, m⟩ = true := by
          simp only [goodB, Ou.toI, soundB_mk, Bool.and_eq_true, Bool.not_eq_true', Bool.and_eq_false_iff, decide_eq_false_iff_not]
          refine ⟨⟨⟨⟨?_, ?_⟩, ?_⟩, ?_⟩, ?_⟩ <;> first | assumption | (right; omega) | omega
        have e3 : push ⟨a + 1, b, c, d, true, y, z, t, m⟩ 0 = (⟨a + 1, b, c, d, true, y, z, t, m⟩, 0, 15) := by simp [push, outF, hp, pushQ, Ou.open', kindB]
        have e5 : done ⟨a + 1, b, c, d, true, y, z, t, m⟩ 0 (a + 1) = (⟨a + 1, b, c, d, false, y, z, t, m⟩, 0) := by simp [done, outF, hp, doneQ, Ou.open', Ou.last, Ou.set, kindB]
        have hw : IntKind.wrap .i64 (a + 1) = a + 1 := wrap_i64 (by omega) (by omega)
        rw [e2]
        clear gs g0 g1 g2 g3
        simp [hm, hw, Try.ntmps5, Try.results5]
        repeat' first
          | (refine run_gd_split (fun h => ?_) (fun h => ?_) <;> simp [h, hm, hw, Try.ntmps5, Try.results5])
          | (refine run_br_split (fun h => ?_) (fun h => ?_) <;> simp [h, hm, hw, Try.ntmps5, Try.results5])
          | (refine ⟨by decide +kernel, ?_⟩)
          | (refine LoopW.unroll mixed (Plain.ret _ _ _) rfl (CW.run 300 rfl ?_); simp [*, hm, hw, Try.ntmps5, Try.results5])
        refine CW.call (push_w _ _ _ _ _ _ _ _ _ _) (fun _ _ => by simp [Try.call9]) rfl rfl rfl (by first | exact .inl rfl | exact .inr ⟨_, _, rfl, by simp []⟩) rfl rfl rfl (CW.runOps 300 rfl ?_)
        simp [e3, Try.ntmps5, Try.results5]
        refine CW.call (done_w _ _ _ _ _ _ _ _ _ _ _) (fun _ _ => by simp [Try.call12]) rfl rfl rfl (by first | exact .inl rfl | exact .inr ⟨_, _, rfl, by simp []⟩) rfl rfl rfl (CW.runOps 300 rfl ?_)
        by_cases hn : n = a + 1
        · subst hn
          simp [e5, Try.ntmps5, Try.results5]
          refine CW.call (done_w _ _ _ _ _ _ _ _ _ _ _) (fun _ _ => by simp [Try.call12]) rfl rfl rfl (by first | exact .inl rfl | exact .inr ⟨_, _, rfl, by simp []⟩) rfl rfl rfl (CW.runOps 300 rfl ?_)
          simp [e5, hw, Try.ntmps5, Try.results5]
          repeat' first
            | (refine run_gd_split (fun h => ?_) (fun h => ?_) <;> simp [h, hw, Try.ntmps5, Try.results5])
            | (refine run_br_split (fun h => ?_) (fun h => ?_) <;> simp [h, hw, Try.ntmps5, Try.results5])
            | (refine ⟨by decide +kernel, ?_⟩)
            | (refine LoopW.unroll mixed (Plain.ret _ _ _) rfl (CW.run 300 rfl ?_); simp [*, hw, Try.ntmps5, Try.results5])
          all_goals exact Sub.of_eq rfl rfl
        · have e4 : done ⟨a + 1, b, c, d, true, y, z, t, m⟩ 0 n = (⟨a + 1, b, c, d, true, y, z, t, m⟩, 11) := by simp [done, outF, hp, doneQ, Ou.open', Ou.last, kindB, hn]
          simp [e4, Try.ntmps5, Try.results5]
          refine CW.call (done_w _ _ _ _ _ _ _ _ _ _ _) (fun _ _ => by simp [Try.call12]) rfl rfl rfl (by first | exact .inl rfl | exact .inr ⟨_, _, rfl, by simp []⟩) rfl rfl rfl (CW.runOps 300 rfl ?_)
          simp [e5, hw, hn, Try.ntmps5, Try.results5]
          repeat' first
            | (refine run_gd_split (fun h => ?_) (fun h => ?_) <;> simp [h, hw, hn, Try.ntmps5, Try.results5])
            | (refine run_br_split (fun h => ?_) (fun h => ?_) <;> simp [h, hw, hn, Try.ntmps5, Try.results5])
            | (refine ⟨by decide +kernel, ?_⟩)
            | (refine LoopW.unroll mixed (Plain.ret _ _ _) rfl (CW.run 300 rfl ?_); simp [*, hw, hn, Try.ntmps5, Try.results5])
          all_goals exact Sub.of_eq rfl rfl
    · have e2 : pushQ ⟨a, b, c, d, true, y, z, t, m⟩ 0 = (⟨a, b, c, d, true, y, z, t, m⟩, 0, 15) := by simp [pushQ, Ou.open', kindB]
      rw [e2]
      clear gs g0 g1 g2 g3
      simp [Try.ntmps5, Try.results5]
      repeat' first
        | (refine run_gd_split (fun h => ?_) (fun h => ?_) <;> simp [h, Try.ntmps5, Try.results5])
        | (refine run_br_split (fun h => ?_) (fun h => ?_) <;> simp [h, Try.ntmps5, Try.results5])
        | (refine ⟨by decide +kernel, ?_⟩)
        | (refine LoopW.unroll mixed (Plain.ret _ _ _) rfl (CW.run 300 rfl ?_); simp [*, Try.ntmps5, Try.results5])
      all_goals exact Sub.of_eq rfl rfl
  · cases y
    · by_cases hm : b = m
      · have e2 : pushQ ⟨a, b, c, d, x, false, z, t, m⟩ 1 = (⟨a, b, c, d, x, false, z, t, m⟩, 0, 14) := by simp [pushQ, Ou.open', Ou.last, kindB, hm]
        rw [e2]
        clear gs g0 g1 g2 g3
        subst hm
        simp [Try.ntmps5, Try.results5]
        repeat' first
          | (refine run_gd_split (fun h => ?_) (fun h => ?_) <;> simp [h, Try.ntmps5, Try.results5])
          | (refine run_br_split (fun h => ?_) (fun h => ?_) <;> simp [h, Try.ntmps5, Try.results5])
          | (refine ⟨by decide +kernel, ?_⟩)
          | (refine LoopW.unroll mixed (Plain.ret _ _ _) rfl (CW.run 300 rfl ?_); simp [*, Try.ntmps5, Try.results5])
        all_goals exact Sub.of_eq rfl rfl
      · have e2 : pushQ ⟨a, b, c, d, x, false, z, t, m⟩ 1 = (⟨a, b + 1, c, d, x, true, z, t, m⟩, b + 1, 0) := by simp [pushQ, Ou.open', Ou.last, Ou.set, kindB, hm]
        have hp : goodB ⟨a, b + 1, c, d, x, true, z, t, m⟩ = true := by
          simp only [goodB, Ou.toI, soundB_mk, Bool.and_eq_true, Bool.not_eq_true', Bool.and_eq_false_iff, decide_eq_false_iff_not]
          refine ⟨⟨⟨⟨?_, ?_⟩, ?_⟩, ?_⟩, ?_⟩ <;> first | assumption | (right; omega) | omega
        have e3 : push ⟨a, b + 1, c, d, x, true, z, t, m⟩ 1 = (⟨a, b + 1, c, d, x, true, z, t, m⟩, 0, 15) := by simp [push, outF, hp, pushQ, Ou.open', kindB]
        have e5 : done ⟨a, b + 1, c, d, x, true, z, t, m⟩ 1 (b + 1) = (⟨a, b + 1, c, d, x, false, z, t, m⟩, 0) := by simp [done, outF, hp, doneQ, Ou.open', Ou.last, Ou.set, kindB]
        have hw : IntKind.wrap .i64 (b + 1) = b + 1 := wrap_i64 (by omega) (by omega)
        rw [e2]
        clear gs g0 g1 g2 g3
        simp [hm, hw, Try.ntmps5, Try.results5]
        repeat' first
          | (refine run_gd_split (fun h => ?_) (fun h => ?_) <;> simp [h, hm, hw, Try.ntmps5, Try.results5])
          | (refine run_br_split (fun h => ?_) (fun h => ?_) <;> simp [h, hm, hw, Try.ntmps5, Try.results5])
          | (refine ⟨by decide +kernel, ?_⟩)
          | (refine LoopW.unroll mixed (Plain.ret _ _ _) rfl (CW.run 300 rfl ?_); simp [*, hm, hw, Try.ntmps5, Try.results5])
        refine CW.call (push_w _ _ _ _ _ _ _ _ _ _) (fun _ _ => by simp [Try.call9]) rfl rfl rfl (by first | exact .inl rfl | exact .inr ⟨_, _, rfl, by simp []⟩) rfl rfl rfl (CW.runOps 300 rfl ?_)
        simp [e3, Try.ntmps5, Try.results5]
        refine CW.call (done_w _ _ _ _ _ _ _ _ _ _ _) (fun _ _ => by simp [Try.call12]) rfl rfl rfl (by first | exact .inl rfl | exact .inr ⟨_, _, rfl, by simp []⟩) rfl rfl rfl (CW.runOps 300 rfl ?_)
        by_cases hn : n = b + 1
        · subst hn
          simp [e5, Try.ntmps5, Try.results5]
          refine CW.call (done_w _ _ _ _ _ _ _ _ _ _ _) (fun _ _ => by simp [Try.call12]) rfl rfl rfl (by first | exact .inl rfl | exact .inr ⟨_, _, rfl, by simp []⟩) rfl rfl rfl (CW.runOps 300 rfl ?_)
          simp [e5, hw, Try.ntmps5, Try.results5]
          repeat' first
            | (refine run_gd_split (fun h => ?_) (fun h => ?_) <;> simp [h, hw, Try.ntmps5, Try.results5])
            | (refine run_br_split (fun h => ?_) (fun h => ?_) <;> simp [h, hw, Try.ntmps5, Try.results5])
            | (refine ⟨by decide +kernel, ?_⟩)
            | (refine LoopW.unroll mixed (Plain.ret _ _ _) rfl (CW.run 300 rfl ?_); simp [*, hw, Try.ntmps5, Try.results5])
          all_goals exact Sub.of_eq rfl rfl
        · have e4 : done ⟨a, b + 1, c, d, x, true, z, t, m⟩ 1 n = (⟨a, b + 1, c, d, x, true, z, t, m⟩, 11) := by simp [done, outF, hp, doneQ, Ou.open', Ou.last, kindB, hn]
          simp [e4, Try.ntmps5, Try.results5]
          refine CW.call (done_w _ _ _ _ _ _ _ _ _ _ _) (fun _ _ => by simp [Try.call12]) rfl rfl rfl (by first | exact .inl rfl | exact .inr ⟨_, _, rfl, by simp []⟩) rfl rfl rfl (CW.runOps 300 rfl ?_)
          simp [e5, hw, hn, Try.ntmps5, Try.results5]
          repeat' first
            | (refine run_gd_split (fun h => ?_) (fun h => ?_) <;> simp [h, hw, hn, Try.ntmps5, Try.results5])
            | (refine run_br_split (fun h => ?_) (fun h => ?_) <;> simp [h, hw, hn, Try.ntmps5, Try.results5])
            | (refine ⟨by decide +kernel, ?_⟩)
            | (refine LoopW.unroll mixed (Plain.ret _ _ _) rfl (CW.run 300 rfl ?_); simp [*, hw, hn, Try.ntmps5, Try.results5])
          all_goals exact Sub.of_eq rfl rfl
    · have e2 : pushQ ⟨a, b, c, d, x, true, z, t, m⟩ 1 = (⟨a, b, c, d, x, true, z, t, m⟩, 0, 15) := by simp [pushQ, Ou.open', kindB]
      rw [e2]
      clear gs g0 g1 g2 g3
      simp [Try.ntmps5, Try.results5]
      repeat' first
        | (refine run_gd_split (fun h => ?_) (fun h => ?_) <;> simp [h, Try.ntmps5, Try.results5])
        | (refine run_br_split (fun h => ?_) (fun h => ?_) <;> simp [h, Try.ntmps5, Try.results5])
        | (refine ⟨by decide +kernel, ?_⟩)
        | (refine LoopW.unroll mixed (Plain.ret _ _ _) rfl (CW.run 300 rfl ?_); simp [*, Try.ntmps5, Try.results5])
      all_goals exact Sub.of_eq rfl rfl
  · cases z
    · by_cases hm : c = m
      · have e2 : pushQ ⟨a, b, c, d, x, y, false, t, m⟩ 2 = (⟨a, b, c, d, x, y, false, t, m⟩, 0, 14) := by simp [pushQ, Ou.open', Ou.last, kindB, hm]
        rw [e2]
        clear gs g0 g1 g2 g3
        subst hm
        simp [Try.ntmps5, Try.results5]
        repeat' first
          | (refine run_gd_split (fun h => ?_) (fun h => ?_) <;> simp [h, Try.ntmps5, Try.results5])
          | (refine run_br_split (fun h => ?_) (fun h => ?_) <;> simp [h, Try.ntmps5, Try.results5])
          | (refine ⟨by decide +kernel, ?_⟩)
          | (refine LoopW.unroll mixed (Plain.ret _ _ _) rfl (CW.run 300 rfl ?_); simp [*, Try.ntmps5, Try.results5])
        all_goals exact Sub.of_eq rfl rfl
      · have e2 : pushQ ⟨a, b, c, d, x, y, false, t, m⟩ 2 = (⟨a, b, c + 1, d, x, y, true, t, m⟩, c + 1, 0) := by simp [pushQ, Ou.open', Ou.last, Ou.set, kindB, hm]
        have hp : goodB ⟨a, b, c + 1, d, x, y, true, t, m⟩ = true := by
          simp only [goodB, Ou.toI, soundB_mk, Bool.and_eq_true, Bool.not_eq_true', Bool.and_eq_false_iff, decide_eq_false_iff_not]
          refine ⟨⟨⟨⟨?_, ?_⟩, ?_⟩, ?_⟩, ?_⟩ <;> first | assumption | (right; omega) | omega
        have e3 : push ⟨a, b, c + 1, d, x, y, true, t, m⟩ 2 = (⟨a, b, c + 1, d, x, y, true, t, m⟩, 0, 15) := by simp [push, outF, hp, pushQ, Ou.open', kindB]
        have e5 : done ⟨a, b, c + 1, d, x, y, true, t, m⟩ 2 (c + 1) = (⟨a, b, c + 1, d, x, y, false, t, m⟩, 0) := by simp [done, outF, hp, doneQ, Ou.open', Ou.last, Ou.set, kindB]
        have hw : IntKind.wrap .i64 (c + 1) = c + 1 := wrap_i64 (by omega) (by omega)
        rw [e2]
        clear gs g0 g1 g2 g3
        simp [hm, hw, Try.ntmps5, Try.results5]
        repeat' first
          | (refine run_gd_split (fun h => ?_) (fun h => ?_) <;> simp [h, hm, hw, Try.ntmps5, Try.results5])
          | (refine run_br_split (fun h => ?_) (fun h => ?_) <;> simp [h, hm, hw, Try.ntmps5, Try.results5])
          | (refine ⟨by decide +kernel, ?_⟩)
          | (refine LoopW.unroll mixed (Plain.ret _ _ _) rfl (CW.run 300 rfl ?_); simp [*, hm, hw, Try.ntmps5, Try.results5])
        refine CW.call (push_w _ _ _ _ _ _ _ _ _ _) (fun _ _ => by simp [Try.call9]) rfl rfl rfl (by first | exact .inl rfl | exact .inr ⟨_, _, rfl, by simp []⟩) rfl rfl rfl (CW.runOps 300 rfl ?_)
        simp [e3, Try.ntmps5, Try.results5]
        refine CW.call (done_w _ _ _ _ _ _ _ _ _ _ _) (fun _ _ => by simp [Try.call12]) rfl rfl rfl (by first | exact .inl rfl | exact .inr ⟨_, _, rfl, by simp []⟩) rfl rfl rfl (CW.runOps 300 rfl ?_)
        by_cases hn : n = c + 1
        · subst hn
          simp [e5, Try.ntmps5, Try.results5]
          refine CW.call (done_w _ _ _ _ _ _ _ _ _ _ _) (fun _ _ => by simp [Try.call12]) rfl rfl rfl (by first | exact .inl rfl | exact .inr ⟨_, _, rfl, by simp []⟩) rfl rfl rfl (CW.runOps 300 rfl ?_)
          simp [e5, hw, Try.ntmps5, Try.results5]
          repeat' first
            | (refine run_gd_split (fun h => ?_) (fun h => ?_) <;> simp [h, hw, Try.ntmps5, Try.results5])
            | (refine run_br_split (fun h => ?_) (fun h => ?_) <;> simp [h, hw, Try.ntmps5, Try.results5])
            | (refine ⟨by decide +kernel, ?_⟩)
            | (refine LoopW.unroll mixed (Plain.ret _ _ _) rfl (CW.run 300 rfl ?_); simp [*, hw, Try.ntmps5, Try.results5])
          all_goals exact Sub.of_eq rfl rfl
        · have e4 : done ⟨a, b, c + 1, d, x, y, true, t, m⟩ 2 n = (⟨a, b, c + 1, d, x, y, true, t, m⟩, 11) := by simp [done, outF, hp, doneQ, Ou.open', Ou.last, kindB, hn]
          simp [e4, Try.ntmps5, Try.results5]
          refine CW.call (done_w _ _ _ _ _ _ _ _ _ _ _) (fun _ _ => by simp [Try.call12]) rfl rfl rfl (by first | exact .inl rfl | exact .inr ⟨_, _, rfl, by simp []⟩) rfl rfl rfl (CW.runOps 300 rfl ?_)
          simp [e5, hw, hn, Try.ntmps5, Try.results5]
          repeat' first
            | (refine run_gd_split (fun h => ?_) (fun h => ?_) <;> simp [h, hw, hn, Try.ntmps5, Try.results5])
            | (refine run_br_split (fun h => ?_) (fun h => ?_) <;> simp [h, hw, hn, Try.ntmps5, Try.results5])
            | (refine ⟨by decide +kernel, ?_⟩)
            | (refine LoopW.unroll mixed (Plain.ret _ _ _) rfl (CW.run 300 rfl ?_); simp [*, hw, hn, Try.ntmps5, Try.results5])
          all_goals exact Sub.of_eq rfl rfl
    · have e2 : pushQ ⟨a, b, c, d, x, y, true, t, m⟩ 2 = (⟨a, b, c, d, x, y, true, t, m⟩, 0, 15) := by simp [pushQ, Ou.open', kindB]
      rw [e2]
      clear gs g0 g1 g2 g3
      simp [Try.ntmps5, Try.results5]
      repeat' first
        | (refine run_gd_split (fun h => ?_) (fun h => ?_) <;> simp [h, Try.ntmps5, Try.results5])
        | (refine run_br_split (fun h => ?_) (fun h => ?_) <;> simp [h, Try.ntmps5, Try.results5])
        | (refine ⟨by decide +kernel, ?_⟩)
        | (refine LoopW.unroll mixed (Plain.ret _ _ _) rfl (CW.run 300 rfl ?_); simp [*, Try.ntmps5, Try.results5])
      all_goals exact Sub.of_eq rfl rfl
  · cases t
    · by_cases hm : d = m
      · have e2 : pushQ ⟨a, b, c, d, x, y, z, false, m⟩ 3 = (⟨a, b, c, d, x, y, z, false, m⟩, 0, 14) := by simp [pushQ, Ou.open', Ou.last, kindB, hm]
        rw [e2]
        clear gs g0 g1 g2 g3
        subst hm
        simp [Try.ntmps5, Try.results5]
        repeat' first
          | (refine run_gd_split (fun h => ?_) (fun h => ?_) <;> simp [h, Try.ntmps5, Try.results5])
          | (refine run_br_split (fun h => ?_) (fun h => ?_) <;> simp [h, Try.ntmps5, Try.results5])
          | (refine ⟨by decide +kernel, ?_⟩)
          | (refine LoopW.unroll mixed (Plain.ret _ _ _) rfl (CW.run 300 rfl ?_); simp [*, Try.ntmps5, Try.results5])
        all_goals exact Sub.of_eq rfl rfl
      · have e2 : pushQ ⟨a, b, c, d, x, y, z, false, m⟩ 3 = (⟨a, b, c, d + 1, x, y, z, true, m⟩, d + 1, 0) := by simp [pushQ, Ou.open', Ou.last, Ou.set, kindB, hm]
        have hp : goodB ⟨a, b, c, d + 1, x, y, z, true, m⟩ = true := by
          simp only [goodB, Ou.toI, soundB_mk, Bool.and_eq_true, Bool.not_eq_true', Bool.and_eq_false_iff, decide_eq_false_iff_not]
          refine ⟨⟨⟨⟨?_, ?_⟩, ?_⟩, ?_⟩, ?_⟩ <;> first | assumption | (right; omega) | omega
        have e3 : push ⟨a, b, c, d + 1, x, y, z, true, m⟩ 3 = (⟨a, b, c, d + 1, x, y, z, true, m⟩, 0, 15) := by simp [push, outF, hp, pushQ, Ou.open', kindB]
        have e5 : done ⟨a, b, c, d + 1, x, y, z, true, m⟩ 3 (d + 1) = (⟨a, b, c, d + 1, x, y, z, false, m⟩, 0) := by simp [done, outF, hp, doneQ, Ou.open', Ou.last, Ou.set, kindB]
        have hw : IntKind.wrap .i64 (d + 1) = d + 1 := wrap_i64 (by omega) (by omega)
        rw [e2]
        clear gs g0 g1 g2 g3
        simp [hm, hw, Try.ntmps5, Try.results5]
        repeat' first
          | (refine run_gd_split (fun h => ?_) (fun h => ?_) <;> simp [h, hm, hw, Try.ntmps5, Try.results5])
          | (refine run_br_split (fun h => ?_) (fun h => ?_) <;> simp [h, hm, hw, Try.ntmps5, Try.results5])
          | (refine ⟨by decide +kernel, ?_⟩)
          | (refine LoopW.unroll mixed (Plain.ret _ _ _) rfl (CW.run 300 rfl ?_); simp [*, hm, hw, Try.ntmps5, Try.results5])
        refine CW.call (push_w _ _ _ _ _ _ _ _ _ _) (fun _ _ => by simp [Try.call9]) rfl rfl rfl (by first | exact .inl rfl | exact .inr ⟨_, _, rfl, by simp []⟩) rfl rfl rfl (CW.runOps 300 rfl ?_)
        simp [e3, Try.ntmps5, Try.results5]
        refine CW.call (done_w _ _ _ _ _ _ _ _ _ _ _) (fun _ _ => by simp [Try.call12]) rfl rfl rfl (by first | exact .inl rfl | exact .inr ⟨_, _, rfl, by simp []⟩) rfl rfl rfl (CW.runOps 300 rfl ?_)
        by_cases hn : n = d + 1
        · subst hn
          simp [e5, Try.ntmps5, Try.results5]
          refine CW.call (done_w _ _ _ _ _ _ _ _ _ _ _) (fun _ _ => by simp [Try.call12]) rfl rfl rfl (by first | exact .inl rfl | exact .inr ⟨_, _, rfl, by simp []⟩) rfl rfl rfl (CW.runOps 300 rfl ?_)
          simp [e5, hw, Try.ntmps5, Try.results5]
          repeat' first
            | (refine run_gd_split (fun h => ?_) (fun h => ?_) <;> simp [h, hw, Try.ntmps5, Try.results5])
            | (refine run_br_split (fun h => ?_) (fun h => ?_) <;> simp [h, hw, Try.ntmps5, Try.results5])
            | (refine ⟨by decide +kernel, ?_⟩)
            | (refine LoopW.unroll mixed (Plain.ret _ _ _) rfl (CW.run 300 rfl ?_); simp [*, hw, Try.ntmps5, Try.results5])
          all_goals exact Sub.of_eq rfl rfl
        · have e4 : done ⟨a, b, c, d + 1, x, y, z, true, m⟩ 3 n = (⟨a, b, c, d + 1, x, y, z, true, m⟩, 11) := by simp [done, outF, hp, doneQ, Ou.open', Ou.last, kindB, hn]
          simp [e4, Try.ntmps5, Try.results5]
          refine CW.call (done_w _ _ _ _ _ _ _ _ _ _ _) (fun _ _ => by simp [Try.call12]) rfl rfl rfl (by first | exact .inl rfl | exact .inr ⟨_, _, rfl, by simp []⟩) rfl rfl rfl (CW.runOps 300 rfl ?_)
          simp [e5, hw, hn, Try.ntmps5, Try.results5]
          repeat' first
            | (refine run_gd_split (fun h => ?_) (fun h => ?_) <;> simp [h, hw, hn, Try.ntmps5, Try.results5])
            | (refine run_br_split (fun h => ?_) (fun h => ?_) <;> simp [h, hw, hn, Try.ntmps5, Try.results5])
            | (refine ⟨by decide +kernel, ?_⟩)
            | (refine LoopW.unroll mixed (Plain.ret _ _ _) rfl (CW.run 300 rfl ?_); simp [*, hw, hn, Try.ntmps5, Try.results5])
          all_goals exact Sub.of_eq rfl rfl
    · have e2 : pushQ ⟨a, b, c, d, x, y, z, true, m⟩ 3 = (⟨a, b, c, d, x, y, z, true, m⟩, 0, 15) := by simp [pushQ, Ou.open', kindB]
      rw [e2]
      clear gs g0 g1 g2 g3
      simp [Try.ntmps5, Try.results5]
      repeat' first
        | (refine run_gd_split (fun h => ?_) (fun h => ?_) <;> simp [h, Try.ntmps5, Try.results5])
        | (refine run_br_split (fun h => ?_) (fun h => ?_) <;> simp [h, Try.ntmps5, Try.results5])
        | (refine ⟨by decide +kernel, ?_⟩)
        | (refine LoopW.unroll mixed (Plain.ret _ _ _) rfl (CW.run 300 rfl ?_); simp [*, Try.ntmps5, Try.results5])
      all_goals exact Sub.of_eq rfl rfl
end Go.Proofs.Ytipkcdjpaneimaa

