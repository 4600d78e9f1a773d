/-
  LAYER 20: the walk of ServerHello.
-/
import Derived.Test.YtbmnaehodmgibaaGreatDoorPs
import Derived.Test.YtbmnaehodmgibaaGreatDoorWh
set_option linter.unusedSimpArgs false
set_option linter.unusedVariables false
section
namespace Go.G
open Go.AI
-- WHO GREETS
theorem pump_new (e m : Int) (p : Store) : pump (newSess e m) p = (newSess e m, [], 0) := by
  unfold pump
  rw [soundS_of (sane_newSess e m)]
  simp [pumpQ, idle, newSess]
theorem hello_bad (e m : Int) (p : Store) (g : Frame) (h : ¬ frameE g = 0) : handle (newSess e m) p g = (newSess e m, frameE g) := by
  unfold handle
  rw [soundS_of (sane_newSess e m)]
  simp [handleQ, h]
theorem hello_good (e m : Int) (p : Store) (g : Frame) (h : frameE g = 0) (he : g.epoch = (newSess e m).epoch) (h0 : g.type = 0) :
    handle (newSess e m) p g = ({ newSess e m with greeted := true, v := helloV p (newSess e m).v g.have_ }, 0) := by
  unfold handle
  rw [soundS_of (sane_newSess e m)]
  simp [handleQ, h, he, h0, helloH, newSess]
theorem hello_twice (e m : Int) (p : Store) (g : Frame) (h : frameE g = 0) (he : g.epoch = (newSess e m).epoch) (h0 : g.type = 0) :
    (handle (handle (newSess e m) p g).1 p g).2 = 9 := by
  have hs := handle_sane p g (sane_newSess e m)
  rw [hello_good e m p g h he h0] at hs ⊢
  unfold handle
  rw [soundS_of hs]
  simp [handleQ, h, h0, helloH, he]
end Go.G
end
section
namespace Go.Proofs.YtbmnaehodmgibaaGreatDoor
open Go.AI Go.G
set_option maxRecDepth 20000
def zSess : Sess := ⟨0, false, ⟨0, 0, 0, 0, false, false, false, false, 0⟩, zView, 0, 0⟩
theorem zSess_ok : OkSess zSess := ⟨zView_ok⟩

-- groyne/groynelaw20.ServerHello
theorem serverHello_w (p : Store) (f : G.Frame) (ep : Int) (hp : OkStore p) (hf : OkFrame f) : CtJ errG Tryz.prog 4 [st (storeC p), st (frameC f), int ep] [] [] (bool true) [] := by
  refine CtJ.of_body errK Tryz.func4 rfl mixed (by rw [Tryz.ntmps4]; simp) (CI.run 9999 400 rfl ?_)
  simp [Tryz.ntmps4, Tryz.results4]
  refine CI.callJ [] (awake20 ) Tryz.call9 rfl rfl rfl (by first | exact .inl rfl | exact .inr ⟨_, _, rfl, by simp⟩ | exact .inr ⟨_, _, rfl, by simp [*]⟩) rfl (by simp) (by constructor <;> simp [nmOk]) (by simp) (CI.runOps 9999 400 rfl ?_)
  simp [Tryz.ntmps4, Tryz.results4]
  have hz := few20_l zSess p zSess_ok hp
  rw [show fewV zSess.v = true by decide +kernel, Bool.and_true] at hz
  refine CI.callP (hz ) Tryz.call10 rfl rfl rfl (by first | exact .inl rfl | exact .inr ⟨_, _, rfl, by simp⟩ | exact .inr ⟨_, _, rfl, by simp [*]⟩) rfl (by simp [zSess, zView, zFrame]) rfl rfl (CI.runOps 9999 400 rfl ?_)
  simp [zSess, zView, zFrame, Tryz.ntmps4, Tryz.results4]
  refine runI_gd_split (fun h1 => ?_) (fun h1 => ?_) <;> simp only [h1] <;> simp [Tryz.ntmps4, Tryz.results4]
  · first | (exact fin0 (by simp) rfl) | (refine ⟨by decide +kernel, ?_⟩; exact fin0 (by simp) rfl)
  refine CI.callP (fewF_r f hf) Tryz.call11 rfl rfl rfl (by first | exact .inl rfl | exact .inr ⟨_, _, rfl, by simp⟩ | exact .inr ⟨_, _, rfl, by simp [*]⟩) rfl (by simp) rfl rfl (CI.runOps 9999 400 rfl ?_)
  simp [Tryz.ntmps4, Tryz.results4]
  refine runI_br_split (fun h2 => ?_) (fun h2 => ?_) <;> simp only [h2] <;> simp [Tryz.ntmps4, Tryz.results4]
  · first | (exact fin0 (by simp) rfl) | (refine ⟨by decide +kernel, ?_⟩; exact fin0 (by simp) rfl)
  have h1' : fewS 10 p = true := by simpa using h1
  have h2' : fewF f = true := by simpa using h2
  have b2 := fewF_b h2'
  have b3 : p.hist.length ≤ 10 := by have := h1'; simp only [fewS, Bool.and_eq_true, decide_eq_true_eq] at this; exact this.2
  have c3 := b2.have_
  obtain ⟨g, hg⟩ : ∃ g : G.Frame, g = { f with type := 0, epoch := (newSess ep 9).epoch } := ⟨_, rfl⟩
  have g1 : g.type = 0 := by rw [hg]
  have g2 : g.epoch = (newSess ep 9).epoch := by rw [hg]
  have hgo : OkFrame g := by rw [hg]; exact ⟨hf.adds, hf.gone, hf.have_, hf.held⟩
  have hso : OkSess (newSess ep 9) := ⟨zView_ok⟩
  have hlen : (newSess ep 9).v.have_.length ≤ 1000000 := by simp [newSess, zView]
  have hP := pump_s (newSess ep 9) p hso hlen (by omega) (fun h => by rw [soundS_of (sane_newSess _ _)] at h; simp [idle, newSess] at h)
  rw [pump_new] at hP
  have hH := handle_s (newSess ep 9) p g hso hlen hgo hp (by omega)
  have hF := frame_f g hgo
  refine CI.callP (frame1_s f (by omega)) Tryz.call16 rfl rfl rfl (by first | exact .inl rfl | exact .inr ⟨_, _, rfl, by simp⟩ | exact .inr ⟨_, _, rfl, by simp [*]⟩) rfl (by simp) rfl rfl (CI.runOps 9999 400 rfl ?_)
  simp [Tryz.ntmps4, Tryz.results4]
  refine CI.callP (newSess_p ep 9) Tryz.call20 rfl rfl rfl (by first | exact .inl rfl | exact .inr ⟨_, _, rfl, by simp⟩ | exact .inr ⟨_, _, rfl, by simp [*]⟩) rfl (by simp) rfl rfl (CI.runOps 9999 400 rfl ?_)
  simp [Tryz.ntmps4, Tryz.results4]
  refine CI.callP (store_l p) Tryz.call15 rfl rfl rfl (by first | exact .inl rfl | exact .inr ⟨_, _, rfl, by simp⟩ | exact .inr ⟨_, _, rfl, by simp [*]⟩) rfl (by simp) rfl rfl (CI.runOps 9999 400 rfl ?_)
  simp [Tryz.ntmps4, Tryz.results4]
  refine CI.callP (hP ) Tryz.call21 rfl rfl rfl (by first | exact .inl rfl | exact .inr ⟨_, _, rfl, by simp⟩ | exact .inr ⟨_, _, rfl, by simp [*]⟩) rfl (by simp) rfl rfl (CI.runOps 9999 400 rfl ?_)
  simp [Tryz.ntmps4, Tryz.results4]
  refine ⟨by decide +kernel, ?_⟩
  refine CI.callP (store_l p) Tryz.call15 rfl rfl rfl (by first | exact .inl rfl | exact .inr ⟨_, _, rfl, by simp⟩ | exact .inr ⟨_, _, rfl, by simp [*]⟩) rfl (by simp) rfl rfl (CI.runOps 9999 400 rfl ?_)
  simp [Tryz.ntmps4, Tryz.results4]
  have ng : (newSess ep 9).greeted = false := rfl
  by_cases he : frameE g = 0
  · have he' := he
    rw [hg] at he'
    obtain ⟨t, ht⟩ : ∃ t : Sess, t = { newSess ep 9 with greeted := true, v := helloV p (newSess ep 9).v g.have_ } := ⟨_, rfl⟩
    have hgood : handle (newSess ep 9) p g = (t, 0) := by rw [hello_good ep 9 p g he g2 g1, ht]
    have htw := hello_twice ep 9 p g he g2 g1
    have tg : t.greeted = true := by rw [ht]
    have th : t.v.have_ = knownV p f.have_ := by rw [ht]; simp [helloV, hg]
    have tk : t.v.held = (knownV p f.have_).map Res.key := by rw [ht]; simp [helloV, hg, newSess, zView]
    have tp : t.v.push = zFrame := by rw [ht]; rfl
    have kl := known_len p f.have_
    have kl' : ((knownV p f.have_).length : Int) ≤ f.have_.length := by omega
    clear ht
    rw [hgood] at hH htw
    have hT := handleW_s t p g (by rw [tk]; simp; omega) (by rw [tp]; exact zFrame_ok) (by rw [th]; omega) hgo hp (by omega)
    rcases hq : handle t p g with ⟨u, e⟩
    rw [hq] at hT
    dsimp only at htw
    rw [hq] at htw
    dsimp only at htw
    subst htw
    refine CI.callP (hH ) Tryz.call14 rfl rfl rfl (by first | exact .inl rfl | exact .inr ⟨_, _, rfl, by simp⟩ | exact .inr ⟨_, _, rfl, by simp [*]⟩) rfl (by simp [hg]) rfl rfl (CI.runOps 9999 400 rfl ?_)
    simp [hg, Tryz.ntmps4, Tryz.results4]
    refine ⟨by decide +kernel, ?_⟩
    refine CI.callP (hF ) Tryz.call22 rfl rfl rfl (by first | exact .inl rfl | exact .inr ⟨_, _, rfl, by simp⟩ | exact .inr ⟨_, _, rfl, by simp [*]⟩) rfl (by simp [hg, he']) rfl rfl (CI.runOps 9999 400 rfl ?_)
    simp [hg, he', Tryz.ntmps4, Tryz.results4]
    refine CI.callP (store_l p) Tryz.call15 rfl rfl rfl (by first | exact .inl rfl | exact .inr ⟨_, _, rfl, by simp⟩ | exact .inr ⟨_, _, rfl, by simp [*]⟩) rfl (by simp) rfl rfl (CI.runOps 9999 400 rfl ?_)
    simp [Tryz.ntmps4, Tryz.results4]
    refine CI.callP (hT ) Tryz.call14 rfl rfl rfl (by first | exact .inl rfl | exact .inr ⟨_, _, rfl, by simp⟩ | exact .inr ⟨_, _, rfl, by simp [*]⟩) rfl (by simp [hg]) rfl rfl (CI.runOps 9999 400 rfl ?_)
    simp [hg, Tryz.ntmps4, Tryz.results4]
    refine ⟨by decide +kernel, ?_⟩
    simp [tg, th, tk, kl, Tryz.ntmps4, Tryz.results4]
    first | (exact fin0 (by simp [tg, th, tk, kl]) rfl) | (refine ⟨by decide +kernel, ?_⟩; exact fin0 (by simp [tg, th, tk, kl]) rfl)
  · have he' := he
    rw [hg] at he'
    rw [hello_bad ep 9 p g he] at hH
    refine CI.callP (hH ) Tryz.call14 rfl rfl rfl (by first | exact .inl rfl | exact .inr ⟨_, _, rfl, by simp⟩ | exact .inr ⟨_, _, rfl, by simp [*]⟩) rfl (by simp [hg]) rfl rfl (CI.runOps 9999 400 rfl ?_)
    simp [hg, Tryz.ntmps4, Tryz.results4]
    refine ⟨by decide +kernel, ?_⟩
    refine CI.callP (hF ) Tryz.call22 rfl rfl rfl (by first | exact .inl rfl | exact .inr ⟨_, _, rfl, by simp⟩ | exact .inr ⟨_, _, rfl, by simp [*]⟩) rfl (by simp [hg, he']) rfl rfl (CI.runOps 9999 400 rfl ?_)
    simp [hg, he', Tryz.ntmps4, Tryz.results4]
    refine CI.callP (hF ) Tryz.call22 rfl rfl rfl (by first | exact .inl rfl | exact .inr ⟨_, _, rfl, by simp⟩ | exact .inr ⟨_, _, rfl, by simp [*]⟩) rfl (by simp [hg, he']) rfl rfl (CI.runOps 9999 400 rfl ?_)
    simp [hg, he', Tryz.ntmps4, Tryz.results4]
    first | (exact fin0 (by simp [ng, he']) rfl) | (refine ⟨by decide +kernel, ?_⟩; exact fin0 (by simp [ng, he']) rfl)

end Go.Proofs.YtbmnaehodmgibaaGreatDoor
end
section
namespace Go.Proofs.YtbmnaehodmgibaaGreatDoor
open Go.ChangeShapes Go.WideShapes Go.ChangeAt Go.RowKit
open Go.AI Go.G
set_option maxRecDepth 20000
theorem is_i {n : Nat} {ds : List D} (h : Is Tryz.prog (n + 1) 3 ds) : ∃ x : Int, True ∧ ds = [iD x] := by
  obtain ⟨x, _, e⟩ := is_int sh_int h
  exact ⟨x, trivial, e⟩
theorem ag_int : aggT Tryz.prog 3 = false := by kernel_rfl
end Go.Proofs.YtbmnaehodmgibaaGreatDoor
end
