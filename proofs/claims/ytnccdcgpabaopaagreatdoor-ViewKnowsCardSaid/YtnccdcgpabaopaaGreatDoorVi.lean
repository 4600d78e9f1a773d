/-
  LAYER 14: the walk of ViewIs: it answers true, whatever it is given.
-/
import Derived.Test.YtnccdcgpabaopaaGreatDoorWc
import Derived.Test.YtnccdcgpabaopaaGreatDoorPl
set_option linter.unusedSimpArgs false
set_option linter.unusedVariables false
section
namespace Go.Proofs.YtnccdcgpabaopaaGreatDoor
open Go.AI Go.G
set_option maxRecDepth 20000

-- groyne/groynelaw14.ViewIs
theorem viewIs_w (v : View) (f : G.Frame) (turn : Int) (held : List Key) (k_ : Key) (hv : OkView v) (hf : OkFrame f) (hh : held.length ≤ 9223372036854775807 ∧ ∀ k ∈ held, nB k.name) (hk : nB k_.name) : Ct Tryz.prog 3 [st (viewC v), st (frameC f), int turn, lst (held.map keyC), st (keyC k_)] [] [] (bool true) [] := by
  refine Ct.of_body Tryz.func3 rfl mixed (by rw [Tryz.ntmps3]; simp) (CW.run 9999 400 rfl ?_)
  simp [Tryz.ntmps3, Tryz.results3]
  refine CW.callP (awake_l ) Tryz.call10 rfl rfl rfl (by first | exact .inl rfl | exact .inr ⟨_, _, rfl, by simp⟩ | exact .inr ⟨_, _, rfl, by simp [*]⟩) rfl (by simp) rfl rfl (CW.runOps 9999 400 rfl ?_)
  simp [Tryz.ntmps3, Tryz.results3]
  refine CW.callP (fewV_r v hv) Tryz.call11 rfl rfl rfl (by first | exact .inl rfl | exact .inr ⟨_, _, rfl, by simp⟩ | exact .inr ⟨_, _, rfl, by simp [*]⟩) rfl (by simp) rfl rfl (CW.runOps 9999 400 rfl ?_)
  simp [Tryz.ntmps3, Tryz.results3]
  refine run_gd_split (fun h1 => ?_) (fun h1 => ?_) <;> simp only [h1] <;> simp [Tryz.ntmps3, Tryz.results3] <;> (try simp only [Bool.not_eq_true', Bool.not_eq_false', decide_eq_true_eq, decide_eq_false_iff_not] at h1)
  · first | (exact fin0 (by simp) rfl) | (refine ⟨by decide +kernel, ?_⟩; exact fin0 (by simp) rfl)
  refine CW.callP (fewF_r f hf) Tryz.call12 rfl rfl rfl (by first | exact .inl rfl | exact .inr ⟨_, _, rfl, by simp⟩ | exact .inr ⟨_, _, rfl, by simp [*]⟩) rfl (by simp) rfl rfl (CW.runOps 9999 400 rfl ?_)
  simp [Tryz.ntmps3, Tryz.results3]
  refine run_gd_split (fun h2 => ?_) (fun h2 => ?_) <;> simp only [h2] <;> simp [Tryz.ntmps3, Tryz.results3] <;> (try simp only [Bool.not_eq_true', Bool.not_eq_false', decide_eq_true_eq, decide_eq_false_iff_not] at h2)
  · first | (exact fin0 (by simp) rfl) | (refine ⟨by decide +kernel, ?_⟩; exact fin0 (by simp) rfl)
  refine run_br_split (fun h3 => ?_) (fun h3 => ?_) <;> simp only [h3] <;> simp [Tryz.ntmps3, Tryz.results3] <;> (try simp only [Bool.not_eq_true', Bool.not_eq_false', decide_eq_true_eq, decide_eq_false_iff_not] at h3)
  · first | (exact fin0 (by simp) rfl) | (refine ⟨by decide +kernel, ?_⟩; exact fin0 (by simp) rfl)
  have b1 := fewV_b h1
  have b2 := fewF_b h2
  have c1 := b1.push.have_
  have c2 := b1.have_
  have c3 := b1.push.adds
  have c4 := b1.push.gone
  have c5 := b2.have_
  have c6 := b1.held
  have hn : ∀ r ∈ v.push.adds, nB r.name := fun r hr => (hv.push.adds.all r hr).name
  refine CW.callP (view1_l v (by omega)) Tryz.call14 rfl rfl rfl (by first | exact .inl rfl | exact .inr ⟨_, _, rfl, by simp⟩ | exact .inr ⟨_, _, rfl, by simp [*]⟩) rfl (by simp) rfl rfl (CW.runOps 9999 400 rfl ?_)
  simp [Tryz.ntmps3, Tryz.results3]
  refine CW.callP (frame1_l f (by omega)) Tryz.call15 rfl rfl rfl (by first | exact .inl rfl | exact .inr ⟨_, _, rfl, by simp⟩ | exact .inr ⟨_, _, rfl, by simp [*]⟩) rfl (by simp) rfl rfl (CW.runOps 9999 400 rfl ?_)
  simp [Tryz.ntmps3, Tryz.results3]
  refine CW.callP (answered_p v f (by omega) (by omega)) Tryz.call13 rfl rfl rfl (by first | exact .inl rfl | exact .inr ⟨_, _, rfl, by simp⟩ | exact .inr ⟨_, _, rfl, by simp [*]⟩) rfl (by simp) rfl rfl (CW.runOps 9999 400 rfl ?_)
  simp [Tryz.ntmps3, Tryz.results3]
  refine ⟨by decide +kernel, ?_⟩
  refine CW.callP (answered_r v f (by omega) (by omega) hn) Tryz.call16 rfl rfl rfl (by first | exact .inl rfl | exact .inr ⟨_, _, rfl, by simp⟩ | exact .inr ⟨_, _, rfl, by simp [*]⟩) rfl (by simp) rfl rfl (CW.runOps 9999 400 rfl ?_)
  simp [Tryz.ntmps3, Tryz.results3]
  refine CW.callP (view1_l v (by omega)) Tryz.call14 rfl rfl rfl (by first | exact .inl rfl | exact .inr ⟨_, _, rfl, by simp⟩ | exact .inr ⟨_, _, rfl, by simp [*]⟩) rfl (by simp) rfl rfl (CW.runOps 9999 400 rfl ?_)
  simp [Tryz.ntmps3, Tryz.results3]
  refine CW.callP (frame1_l f (by omega)) Tryz.call15 rfl rfl rfl (by first | exact .inl rfl | exact .inr ⟨_, _, rfl, by simp⟩ | exact .inr ⟨_, _, rfl, by simp [*]⟩) rfl (by simp) rfl rfl (CW.runOps 9999 400 rfl ?_)
  simp [Tryz.ntmps3, Tryz.results3]
  refine CW.callP (sent_p v f) Tryz.call19 rfl rfl rfl (by first | exact .inl rfl | exact .inr ⟨_, _, rfl, by simp⟩ | exact .inr ⟨_, _, rfl, by simp [*]⟩) rfl (by simp) rfl rfl (CW.runOps 9999 400 rfl ?_)
  simp [Tryz.ntmps3, Tryz.results3]
  refine CW.callP (seen_l (sentV v f) (by simp [sentV]; omega)) Tryz.call18 rfl rfl rfl (by first | exact .inl rfl | exact .inr ⟨_, _, rfl, by simp⟩ | exact .inr ⟨_, _, rfl, by simp [*]⟩) rfl (by simp) rfl rfl (CW.runOps 9999 400 rfl ?_)
  simp [Tryz.ntmps3, Tryz.results3]
  refine CW.callP (sent_r v f) Tryz.call20 rfl rfl rfl (by first | exact .inl rfl | exact .inr ⟨_, _, rfl, by simp⟩ | exact .inr ⟨_, _, rfl, by simp [*]⟩) rfl (by simp) rfl rfl (CW.runOps 9999 400 rfl ?_)
  simp [Tryz.ntmps3, Tryz.results3]
  refine CW.callP (sameV_r (sentV v f) (sentV v f) (ok_sent hv hf)) Tryz.call17 rfl rfl rfl (by first | exact .inl rfl | exact .inr ⟨_, _, rfl, by simp⟩ | exact .inr ⟨_, _, rfl, by simp [*]⟩) rfl (by simp) rfl rfl (CW.runOps 9999 400 rfl ?_)
  simp [Tryz.ntmps3, Tryz.results3]
  refine CW.callP (seen_l (ansV v f) (by have := few_ans_push (f := f) c1; omega)) Tryz.call18 rfl rfl rfl (by first | exact .inl rfl | exact .inr ⟨_, _, rfl, by simp⟩ | exact .inr ⟨_, _, rfl, by simp [*]⟩) rfl (by simp) rfl rfl (CW.runOps 9999 400 rfl ?_)
  simp [Tryz.ntmps3, Tryz.results3]
  refine CW.callP (sameV_r (ansV v f) (ansV v f) (ok_ans hv hf (by omega))) Tryz.call17 rfl rfl rfl (by first | exact .inl rfl | exact .inr ⟨_, _, rfl, by simp⟩ | exact .inr ⟨_, _, rfl, by simp [*]⟩) rfl (by simp) rfl rfl (CW.runOps 9999 400 rfl ?_)
  simp [Tryz.ntmps3, Tryz.results3]
  refine CW.callP (view1_l v (by omega)) Tryz.call14 rfl rfl rfl (by first | exact .inl rfl | exact .inr ⟨_, _, rfl, by simp⟩ | exact .inr ⟨_, _, rfl, by simp [*]⟩) rfl (by simp) rfl rfl (CW.runOps 9999 400 rfl ?_)
  simp [Tryz.ntmps3, Tryz.results3]
  refine CW.callP (drain_p v turn held) Tryz.call21 rfl rfl rfl (by first | exact .inl rfl | exact .inr ⟨_, _, rfl, by simp⟩ | exact .inr ⟨_, _, rfl, by simp [*]⟩) rfl (by simp) rfl rfl (CW.runOps 9999 400 rfl ?_)
  simp [Tryz.ntmps3, Tryz.results3]
  refine CW.callP (seen_l (drainV v turn held) (by simp; omega)) Tryz.call18 rfl rfl rfl (by first | exact .inl rfl | exact .inr ⟨_, _, rfl, by simp⟩ | exact .inr ⟨_, _, rfl, by simp [*]⟩) rfl (by simp) rfl rfl (CW.runOps 9999 400 rfl ?_)
  simp [Tryz.ntmps3, Tryz.results3]
  refine CW.callP (drain_r v turn held) Tryz.call22 rfl rfl rfl (by first | exact .inl rfl | exact .inr ⟨_, _, rfl, by simp⟩ | exact .inr ⟨_, _, rfl, by simp [*]⟩) rfl (by simp) rfl rfl (CW.runOps 9999 400 rfl ?_)
  simp [Tryz.ntmps3, Tryz.results3]
  refine CW.callP (sameV_r (drainV v turn held) (drainV v turn held) (ok_drain hv hh.1)) Tryz.call17 rfl rfl rfl (by first | exact .inl rfl | exact .inr ⟨_, _, rfl, by simp⟩ | exact .inr ⟨_, _, rfl, by simp [*]⟩) rfl (by simp) rfl rfl (CW.runOps 9999 400 rfl ?_)
  simp [Tryz.ntmps3, Tryz.results3]
  refine CW.callP (view1_l v (by omega)) Tryz.call14 rfl rfl rfl (by first | exact .inl rfl | exact .inr ⟨_, _, rfl, by simp⟩ | exact .inr ⟨_, _, rfl, by simp [*]⟩) rfl (by simp) rfl rfl (CW.runOps 9999 400 rfl ?_)
  simp [Tryz.ntmps3, Tryz.results3]
  refine CW.callP (free_p v k_ (by omega) (by omega)) Tryz.call23 rfl rfl rfl (by first | exact .inl rfl | exact .inr ⟨_, _, rfl, by simp⟩ | exact .inr ⟨_, _, rfl, by simp [*]⟩) rfl (by simp) rfl rfl (CW.runOps 9999 400 rfl ?_)
  simp [Tryz.ntmps3, Tryz.results3]
  refine CW.callP (free_r v k_ (by omega) (by omega)) Tryz.call24 rfl rfl rfl (by first | exact .inl rfl | exact .inr ⟨_, _, rfl, by simp⟩ | exact .inr ⟨_, _, rfl, by simp [*]⟩) rfl (by simp) rfl rfl (CW.runOps 9999 400 rfl ?_)
  simp [Tryz.ntmps3, Tryz.results3]
  refine ⟨by decide +kernel, ?_⟩
  first | (exact fin0 (by simp) rfl) | (refine ⟨by decide +kernel, ?_⟩; exact fin0 (by simp) rfl)

end Go.Proofs.YtnccdcgpabaopaaGreatDoor
end
