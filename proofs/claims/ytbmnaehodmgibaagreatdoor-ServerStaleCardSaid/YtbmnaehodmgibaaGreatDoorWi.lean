/-
  LAYER 20: the walk of ServerStale.
-/
import Derived.Test.YtbmnaehodmgibaaGreatDoorWh
set_option linter.unusedSimpArgs false
set_option linter.unusedVariables false
section
namespace Go.Proofs.YtbmnaehodmgibaaGreatDoor
open Go.AI Go.G
set_option maxRecDepth 20000
theorem heldV_ok {l : List Key} (h : l.length ≤ 9223372036854775807) (t : Int) : OkView ⟨[], l, t, zFrame, false⟩ := ⟨⟨by simp, by simp⟩, h, zFrame_ok⟩
theorem serverStale_w (s : Sess) (p : Store) (f : G.Frame) (hs : OkSess s) (hp : OkStore p) (hf : OkFrame f) : CtJ errG Tryz.prog 3 [st (sessC s), st (storeC p), st (frameC f)] [] [] (bool true) [] := by
  refine CtJ.of_body errK Tryz.func3 rfl mixed (by rw [Tryz.ntmps3]; simp) (CI.run 9999 400 rfl ?_)
  simp [Tryz.ntmps3, Tryz.results3]
  refine CI.callJ [] (awake20 ) Tryz.call9 rfl rfl rfl (by first | exact .inl rfl | exact .inr ⟨_, _, rfl, by simp⟩ | exact .inr ⟨_, _, rfl, by simp [*]⟩) rfl (by simp) (by constructor <;> simp [nmOk]) (by simp) (CI.runOps 9999 400 rfl ?_)
  simp [Tryz.ntmps3, Tryz.results3]
  refine CI.callP (few20_l s p hs hp) Tryz.call10 rfl rfl rfl (by first | exact .inl rfl | exact .inr ⟨_, _, rfl, by simp⟩ | exact .inr ⟨_, _, rfl, by simp [*]⟩) rfl (by simp) rfl rfl (CI.runOps 9999 400 rfl ?_)
  simp [Tryz.ntmps3, Tryz.results3]
  refine runI_gd_split (fun h1 => ?_) (fun h1 => ?_) <;> simp only [h1] <;> simp [Tryz.ntmps3, Tryz.results3]
  · first | (exact fin0 (by simp) rfl) | (refine ⟨by decide +kernel, ?_⟩; exact fin0 (by simp) rfl)
  refine CI.callP (fewF_r f hf) Tryz.call11 rfl rfl rfl (by first | exact .inl rfl | exact .inr ⟨_, _, rfl, by simp⟩ | exact .inr ⟨_, _, rfl, by simp [*]⟩) rfl (by simp) rfl rfl (CI.runOps 9999 400 rfl ?_)
  simp [Tryz.ntmps3, Tryz.results3]
  refine runI_gd_split (fun h2 => ?_) (fun h2 => ?_) <;> simp only [h2] <;> simp [Tryz.ntmps3, Tryz.results3]
  · first | (exact fin0 (by simp) rfl) | (refine ⟨by decide +kernel, ?_⟩; exact fin0 (by simp) rfl)
  have h1' : fewS 10 p = true ∧ fewV s.v = true := by simpa using h1
  have h2' : fewF f = true := by simpa using h2
  have b1 := fewV_b h1'.2
  have b2 := fewF_b h2'
  have b3 : p.hist.length ≤ 10 := by have := h1'.1; simp only [fewS, Bool.and_eq_true, decide_eq_true_eq] at this; exact this.2
  have c1 := b1.push.have_
  have c2 := b1.have_
  have c3 := b2.have_
  refine CI.callP (sess_l s (by omega)) Tryz.call13 rfl rfl rfl (by first | exact .inl rfl | exact .inr ⟨_, _, rfl, by simp⟩ | exact .inr ⟨_, _, rfl, by simp [*]⟩) rfl (by simp) rfl rfl (CI.runOps 9999 400 rfl ?_)
  simp [Tryz.ntmps3, Tryz.results3]
  refine CI.callP (saneS_p s hs (by omega)) Tryz.call12 rfl rfl rfl (by first | exact .inl rfl | exact .inr ⟨_, _, rfl, by simp⟩ | exact .inr ⟨_, _, rfl, by simp [*]⟩) rfl (by simp) rfl rfl (CI.runOps 9999 400 rfl ?_)
  simp [Tryz.ntmps3, Tryz.results3]
  refine runI_br_split (fun h3 => ?_) (fun h3 => ?_) <;> simp only [h3] <;> simp [Tryz.ntmps3, Tryz.results3]
  · first | (exact fin0 (by simp) rfl) | (refine ⟨by decide +kernel, ?_⟩; exact fin0 (by simp) rfl)
  have h3' : saneS s = true := by simpa using h3
  have hc := handle_s s p f hs (by omega) hf hp (by omega)
  have f1 := handle_err p f h3'
  have f2 := handle_epoch p f h3'
  have f3 := handle_sane p f h3'
  have f4 := handle_old p f h3'
  have f5 := handle_push p f h3'
  rcases hq : handle s p f with ⟨t, e⟩
  rw [hq] at hc f1 f2 f3 f4 f5
  dsimp only at hc f1 f2 f3 f4 f5
  have T := saneS_iff.1 f3
  have t1 := T.hl
  have t2 := T.dl
  have t3 : OkFrame t.v.push := by rcases f5 with h | h <;> rw [h] <;> first | exact hs.v.push | exact zFrame_ok
  have t4 : t.v.push.have_.length ≤ 80 := by rcases f5 with h | h <;> rw [h] <;> first | exact c1 | simp [zFrame]
  have hd := saneW_p t (by omega) t3 (by omega)
  rw [f3] at hd
  refine CI.callP (sess_l s (by omega)) Tryz.call13 rfl rfl rfl (by first | exact .inl rfl | exact .inr ⟨_, _, rfl, by simp⟩ | exact .inr ⟨_, _, rfl, by simp [*]⟩) rfl (by simp) rfl rfl (CI.runOps 9999 400 rfl ?_)
  simp [Tryz.ntmps3, Tryz.results3]
  refine CI.callP (store_l p) Tryz.call15 rfl rfl rfl (by first | exact .inl rfl | exact .inr ⟨_, _, rfl, by simp⟩ | exact .inr ⟨_, _, rfl, by simp [*]⟩) rfl (by simp) rfl rfl (CI.runOps 9999 400 rfl ?_)
  simp [Tryz.ntmps3, Tryz.results3]
  refine CI.callP (frame1_s f (by omega)) Tryz.call16 rfl rfl rfl (by first | exact .inl rfl | exact .inr ⟨_, _, rfl, by simp⟩ | exact .inr ⟨_, _, rfl, by simp [*]⟩) rfl (by simp) rfl rfl (CI.runOps 9999 400 rfl ?_)
  simp [Tryz.ntmps3, Tryz.results3]
  refine CI.callP (hc ) Tryz.call14 rfl rfl rfl (by first | exact .inl rfl | exact .inr ⟨_, _, rfl, by simp⟩ | exact .inr ⟨_, _, rfl, by simp [*]⟩) rfl (by simp) rfl rfl (CI.runOps 9999 400 rfl ?_)
  simp [Tryz.ntmps3, Tryz.results3]
  refine ⟨by decide +kernel, ?_⟩
  refine runI_gd_split (fun e1 => ?_) (fun e1 => ?_) <;> simp only [e1] <;> simp [Tryz.ntmps3, Tryz.results3]
  · have e1' : ¬ e = 0 := by simpa using e1
    have et := f1 e1'
    subst et
    refine CI.callP (held_l t (by omega)) Tryz.call18 rfl rfl rfl (by first | exact .inl rfl | exact .inr ⟨_, _, rfl, by simp⟩ | exact .inr ⟨_, _, rfl, by simp [*]⟩) rfl (by simp) rfl rfl (CI.runOps 9999 400 rfl ?_)
    simp [Tryz.ntmps3, Tryz.results3]
    refine CI.callP (sameS_r t t hs) Tryz.call17 rfl rfl rfl (by first | exact .inl rfl | exact .inr ⟨_, _, rfl, by simp⟩ | exact .inr ⟨_, _, rfl, by simp [*]⟩) rfl (by simp) rfl rfl (CI.runOps 9999 400 rfl ?_)
    simp [Tryz.ntmps3, Tryz.results3]
    refine runI_gd_split (fun e2 => ?_) (fun e2 => ?_) <;> simp only [e2] <;> simp [Tryz.ntmps3, Tryz.results3]
    · simp [e1', Tryz.ntmps3, Tryz.results3]
      refine CI.callP (hd ) Tryz.call12 rfl rfl rfl (by first | exact .inl rfl | exact .inr ⟨_, _, rfl, by simp⟩ | exact .inr ⟨_, _, rfl, by simp [*]⟩) rfl (by simp) rfl rfl (CI.runOps 9999 400 rfl ?_)
      simp [Tryz.ntmps3, Tryz.results3]
      refine ⟨by decide +kernel, ?_⟩
      refine runI_gd_split (fun k1 => ?_) (fun k1 => ?_) <;> simp only [k1] <;> simp [Tryz.ntmps3, Tryz.results3]
      · first | (exact fin0 (by simp) rfl) | (refine ⟨by decide +kernel, ?_⟩; exact fin0 (by simp) rfl)
      refine runI_gd_split (fun k2 => ?_) (fun k2 => ?_) <;> simp only [k2] <;> simp [Tryz.ntmps3, Tryz.results3]
      · first | (exact fin0 (by simp) rfl) | (refine ⟨by decide +kernel, ?_⟩; exact fin0 (by simp) rfl)
      have k1' : ¬ f.type = 0 := by simpa using k1
      have k2' : ¬ t.v.turn < f.turn := by simpa using k2
      obtain ⟨q1, q2⟩ := f4 k1' k2'
      rw [q1, q2]
      refine CI.callP (sameV_r ⟨[], t.v.held, t.v.turn, zFrame, false⟩ ⟨[], t.v.held, t.v.turn, zFrame, false⟩ (heldV_ok hs.v.held _)) Tryz.call19 rfl rfl rfl (by first | exact .inl rfl | exact .inr ⟨_, _, rfl, by simp⟩ | exact .inr ⟨_, _, rfl, by simp [*]⟩) rfl (by simp [zFrame]) rfl rfl (CI.runOps 9999 400 rfl ?_)
      simp [zFrame, Tryz.ntmps3, Tryz.results3]
      first | (exact fin0 (by simp) rfl) | (refine ⟨by decide +kernel, ?_⟩; exact fin0 (by simp) rfl)
    · skip
      refine CI.callP (hd ) Tryz.call12 rfl rfl rfl (by first | exact .inl rfl | exact .inr ⟨_, _, rfl, by simp⟩ | exact .inr ⟨_, _, rfl, by simp [*]⟩) rfl (by simp) rfl rfl (CI.runOps 9999 400 rfl ?_)
      simp [Tryz.ntmps3, Tryz.results3]
      refine ⟨by decide +kernel, ?_⟩
      refine runI_gd_split (fun k1 => ?_) (fun k1 => ?_) <;> simp only [k1] <;> simp [Tryz.ntmps3, Tryz.results3]
      · first | (exact fin0 (by simp) rfl) | (refine ⟨by decide +kernel, ?_⟩; exact fin0 (by simp) rfl)
      refine runI_gd_split (fun k2 => ?_) (fun k2 => ?_) <;> simp only [k2] <;> simp [Tryz.ntmps3, Tryz.results3]
      · first | (exact fin0 (by simp) rfl) | (refine ⟨by decide +kernel, ?_⟩; exact fin0 (by simp) rfl)
      have k1' : ¬ f.type = 0 := by simpa using k1
      have k2' : ¬ t.v.turn < f.turn := by simpa using k2
      obtain ⟨q1, q2⟩ := f4 k1' k2'
      rw [q1, q2]
      refine CI.callP (sameV_r ⟨[], t.v.held, t.v.turn, zFrame, false⟩ ⟨[], t.v.held, t.v.turn, zFrame, false⟩ (heldV_ok hs.v.held _)) Tryz.call19 rfl rfl rfl (by first | exact .inl rfl | exact .inr ⟨_, _, rfl, by simp⟩ | exact .inr ⟨_, _, rfl, by simp [*]⟩) rfl (by simp [zFrame]) rfl rfl (CI.runOps 9999 400 rfl ?_)
      simp [zFrame, Tryz.ntmps3, Tryz.results3]
      first | (exact fin0 (by simp) rfl) | (refine ⟨by decide +kernel, ?_⟩; exact fin0 (by simp) rfl)
  · have e1' : e = 0 := by simpa using e1
    have ef : f.epoch = s.epoch := by
      rcases Decidable.em (f.epoch = s.epoch) with h | h
      · exact h
      · exact absurd e1' (f2 h)
    simp [ef, Tryz.ntmps3, Tryz.results3]
    refine CI.callP (hd ) Tryz.call12 rfl rfl rfl (by first | exact .inl rfl | exact .inr ⟨_, _, rfl, by simp⟩ | exact .inr ⟨_, _, rfl, by simp [*]⟩) rfl (by simp) rfl rfl (CI.runOps 9999 400 rfl ?_)
    simp [Tryz.ntmps3, Tryz.results3]
    refine ⟨by decide +kernel, ?_⟩
    refine runI_gd_split (fun k1 => ?_) (fun k1 => ?_) <;> simp only [k1] <;> simp [Tryz.ntmps3, Tryz.results3]
    · first | (exact fin0 (by simp) rfl) | (refine ⟨by decide +kernel, ?_⟩; exact fin0 (by simp) rfl)
    refine runI_gd_split (fun k2 => ?_) (fun k2 => ?_) <;> simp only [k2] <;> simp [Tryz.ntmps3, Tryz.results3]
    · first | (exact fin0 (by simp) rfl) | (refine ⟨by decide +kernel, ?_⟩; exact fin0 (by simp) rfl)
    have k1' : ¬ f.type = 0 := by simpa using k1
    have k2' : ¬ s.v.turn < f.turn := by simpa using k2
    obtain ⟨q1, q2⟩ := f4 k1' k2'
    rw [q1, q2]
    refine CI.callP (sameV_r ⟨[], s.v.held, s.v.turn, zFrame, false⟩ ⟨[], s.v.held, s.v.turn, zFrame, false⟩ (heldV_ok hs.v.held _)) Tryz.call19 rfl rfl rfl (by first | exact .inl rfl | exact .inr ⟨_, _, rfl, by simp⟩ | exact .inr ⟨_, _, rfl, by simp [*]⟩) rfl (by simp [zFrame]) rfl rfl (CI.runOps 9999 400 rfl ?_)
    simp [zFrame, Tryz.ntmps3, Tryz.results3]
    first | (exact fin0 (by simp) rfl) | (refine ⟨by decide +kernel, ?_⟩; exact fin0 (by simp) rfl)
end Go.Proofs.YtbmnaehodmgibaaGreatDoor
end
