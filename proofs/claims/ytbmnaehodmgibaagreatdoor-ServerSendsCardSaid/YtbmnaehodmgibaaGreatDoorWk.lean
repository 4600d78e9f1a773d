/-
  LAYER 20: what is sent, for the law; the walks of frames as the document's, and of ServerSends.
-/
import Derived.Test.YtbmnaehodmgibaaGreatDoorPs
import Derived.Test.YtbmnaehodmgibaaGreatDoorWh
set_option linter.unusedSimpArgs false
set_option linter.unusedVariables false
section
namespace Go.G
open Go.AI
structure SentOk (s : Sess) (p : Store) (f : Frame) (t : Sess) : Prop where
  sane : frameE f = 0
  type : f.type = 1
  epoch : f.epoch = s.epoch
  many : 0 < f.adds.length + f.gone.length
  al : f.adds.length ≤ 64
  gl : f.gone.length ≤ 64
  adds : ∀ r ∈ f.adds, getR (nowL p) r.key = some r
  gone : ¬ f.kind = 0 → ∀ k ∈ f.gone, k ∉ s.v.held ∧ (refersR s.v.have_ k).length = 0
  ok : OkRs (nowL p) → OkFrame f
  tsane : saneS t = true
  topen : t.v.open_ = true
  tpush : t.v.push = f
  tview : t.v.have_ = s.v.have_ ∧ t.v.held = s.v.held
  marks : f.have_ = []
theorem sent_ok {s : Sess} {p : Store} (hs : saneS s = true) (hp : sanS p = true) {x : Step} (c1 : nextP s.v.have_ (nowL p) s.v.held = .some x) (c3 : s.greeted = true) (c4 : (Nonce.push s.out x.kind).2.2 = 0) :
    SentOk s p (pushF s x (Nonce.push s.out x.kind).2.1) { s with v := sentV s.v (pushF s x (Nonce.push s.out x.kind).2.1), out := (Nonce.push s.out x.kind).1 } := by
  have S := saneS_iff.1 hs
  have hx := next_ok c1
  have hw := now_tab hp
  obtain ⟨g1, g2, g3, g4⟩ := push_good S.out hx.kind c4
  have hf := pushF_ok hx S rfl hw g2
  have L := small_len (frameE_zero.1 hf).small
  refine ⟨hf, rfl, rfl, hx.some, L.1, L.2.1, fun r hr => ascR_get (tabE_asc hw) (hx.adds r hr).1, hx.free, fun ho => ⟨⟨by have := L.1; omega, fun r hr => ho.all r (hx.adds r hr).1⟩, by have := L.2.1; omega, by simp [pushF], by simp [pushF]⟩, sent_sane S hx hw c3 c4, rfl, rfl, ⟨rfl, rfl⟩, rfl⟩
theorem okRs_now {p : Store} (h : OkStore p) : OkRs (nowL p) := by
  unfold nowL takenS
  split
  · exact ⟨by simp [newS, lastS], by simp [newS, lastS]⟩
  · rename_i hne
    unfold lastS
    rw [List.getLastD_eq_getLast?, List.getLast?_eq_some_getLast hne]
    exact h.all _ (List.getLast_mem hne)
end Go.G
end
section
namespace Go.Proofs.YtbmnaehodmgibaaGreatDoor
open Go.AI Go.G
set_option maxRecDepth 20000
@[simp] theorem lenAll_frame (l : List G.Frame) : lenAll (l.map frameC) 10 = True := lenAll_map (f := frameC) (n := 10) (fun _ => rfl) l
theorem list_l (l : List G.Frame) (hl : l.length ≤ 1000) (hf : ∀ f ∈ l, f.have_.length ≤ 1000000) : Ct Tryz.prog 26 [lst (l.map frameC)] [] [] (lst (l.map frameC)) [] := by
  refine Ct.of_body Tryz.func26 rfl mixed (by rw [Tryz.ntmps26]; simp) (CW.run 9999 400 rfl ?_)
  simp [Tryz.ntmps26, Tryz.results26]
  refine LoopW.nilOwn 3 10 31 rfl ?_
  refine LoopW.inv mixed (Plain.retC _ _ _ _ _) rfl (ι := {k : Nat // k ≤ (l).length}) (fun k => [(0, lst (l.map frameC)), (3, .own 64), (4, int k.1)]) (fun k => [(64, .grow 10 ((l.take k.1).map frameC) 31)]) 65 (fun k => (l).length - k.1) ⟨0, by omega⟩ [] (by constructor <;> simp) ?_
  rintro ⟨k, hk1⟩ B hB
  refine CW.run 9999 400 rfl ?_
  simp [Tryz.ntmps26, Tryz.results26]
  refine run_br_split (fun h => ?_) (fun h => ?_)
  · have hk : k < (l).length := by simpa using h
    have hr : (l)[k]? = some (l)[k] := List.getElem?_eq_getElem hk
    have hm : (l)[k] ∈ (l) := List.getElem_mem hk
    have ht : (l).take (k + 1) = (l).take k ++ [(l)[k]] := by rw [List.take_add_one, hr]; rfl
    have hd : (l).drop k = (l)[k] :: (l).drop (k + 1) := List.drop_eq_getElem_cons hk
    have hw : IntKind.wrap .i64 ((k : Int) + 1) = k + 1 := wrap_i64 (by omega) (by omega)
    obtain ⟨x, hx⟩ : ∃ x0, (l)[k] = x0 := ⟨_, rfl⟩
    rw [hx] at hr hm ht hd
    simp only [h]
    simp [hr, hw, Tryz.ntmps26, Tryz.results26]
    refine CW.callP (plain_s x (hf x hm)) Tryz.call82 rfl rfl rfl (by first | exact .inl rfl | exact .inr ⟨_, _, rfl, by simp⟩ | exact .inr ⟨_, _, rfl, by simp [*]⟩) rfl (by simp) rfl rfl (CW.runOps 9999 400 rfl ?_)
    simp [Tryz.ntmps26, Tryz.results26]
    refine ⟨by omega, ?_⟩
    refine hB _ ⟨k + 1, by omega⟩ [] ?_ (by simp; omega)
    constructor <;> simp [hw, ht]
  · have hkl : k = (l).length := by simp at h; omega
    subst hkl
    simp only [h]
    simp [List.take_length, List.drop_length, Tryz.ntmps26, Tryz.results26]
    first | (exact fin0 (by simp) rfl) | (refine ⟨by decide +kernel, ?_⟩; exact fin0 (by simp) rfl)
theorem frames_r (a b : List G.Frame) (hl : a.length ≤ 1000) (hf : ∀ f ∈ a, OkFrame f) : Ct Tryz.prog 25 [lst (a.map frameC), lst (b.map frameC)] [] [] (bool (decide (a = b))) [] := by
  refine Ct.of_body Tryz.func25 rfl mixed (by rw [Tryz.ntmps25]; simp) (CW.run 9999 400 rfl ?_)
  simp [Tryz.ntmps25, Tryz.results25]
  refine run_br_split (fun h1 => ?_) (fun h1 => ?_) <;> simp only [h1] <;> simp [Tryz.ntmps25, Tryz.results25] <;> (try simp only [Bool.not_eq_true', Bool.not_eq_false', decide_eq_true_eq, decide_eq_false_iff_not] at h1)
  · have e : ¬ a = b := fun e => h1 (by rw [e])
    first | (exact fin0 (by simp [e]) rfl) | (refine ⟨by decide +kernel, ?_⟩; exact fin0 (by simp [e]) rfl)
  have hab : a.length = b.length := by omega
  refine LoopW.inv mixed (Plain.retC _ _ _ _ _) rfl (ι := {k : Nat // k ≤ (a).length ∧ a.take k = b.take k}) (fun k => [(0, lst (a.map frameC)), (1, lst (b.map frameC)), (5, int k.1)]) (fun k => []) 64 (fun k => (a).length - k.1) ⟨0, by omega, by simp⟩ [] (by constructor <;> simp) ?_
  rintro ⟨k, hk1, hi⟩ B hB
  refine CW.run 9999 400 rfl ?_
  simp [Tryz.ntmps25, Tryz.results25]
  refine run_br_split (fun h => ?_) (fun h => ?_)
  · have hk : k < (a).length := by simpa using h
    have hr : (a)[k]? = some (a)[k] := List.getElem?_eq_getElem hk
    have hm : (a)[k] ∈ (a) := List.getElem_mem hk
    have ht : (a).take (k + 1) = (a).take k ++ [(a)[k]] := by rw [List.take_add_one, hr]; rfl
    have hd : (a).drop k = (a)[k] :: (a).drop (k + 1) := List.drop_eq_getElem_cons hk
    have hw : IntKind.wrap .i64 ((k : Int) + 1) = k + 1 := wrap_i64 (by omega) (by omega)
    obtain ⟨x, hx⟩ : ∃ x0, (a)[k] = x0 := ⟨_, rfl⟩
    rw [hx] at hr hm ht hd
    simp only [h]
    simp [hr, hw, Tryz.ntmps25, Tryz.results25]
    have hrb : b[k]? = some b[k] := List.getElem?_eq_getElem (by omega)
    have htb : b.take (k + 1) = b.take k ++ [b[k]] := by rw [List.take_add_one, hrb]; rfl
    have hne : x ≠ b[k] → a ≠ b := by
      intro h2 e; subst e; rw [hr] at hrb; cases hrb; exact h2 rfl
    generalize b[k] = y at hrb htb hne
    simp [hrb, Tryz.ntmps25, Tryz.results25]
    refine CW.callP (sameF_r x y (hf x hm)) Tryz.call59 rfl rfl rfl (by first | exact .inl rfl | exact .inr ⟨_, _, rfl, by simp⟩ | exact .inr ⟨_, _, rfl, by simp [*]⟩) rfl (by simp) rfl rfl (CW.runOps 9999 400 rfl ?_)
    simp [Tryz.ntmps25, Tryz.results25]
    refine ⟨by decide +kernel, ?_⟩
    refine run_br_split (fun h2 => ?_) (fun h2 => ?_) <;> simp only [h2] <;> simp [Tryz.ntmps25, Tryz.results25] <;> (try simp only [Bool.not_eq_true', Bool.not_eq_false', decide_eq_true_eq, decide_eq_false_iff_not] at h2)
    · first | (exact fin0 (by simp [hne h2]) rfl) | (refine ⟨by decide +kernel, ?_⟩; exact fin0 (by simp [hne h2]) rfl)
    · refine hB _ ⟨k + 1, by omega, by rw [ht, htb, hi, h2]⟩ [] ?_ (by simp; omega)
      constructor <;> simp [hw]
  · have hkl : k = (a).length := by simp at h; omega
    subst hkl
    simp only [h]
    simp [List.take_length, List.drop_length, Tryz.ntmps25, Tryz.results25]
    have e : a = b := by
      rw [List.take_length, hab, List.take_length] at hi; exact hi
    first | (exact fin0 (by simp [e]) rfl) | (refine ⟨by decide +kernel, ?_⟩; exact fin0 (by simp [e]) rfl)
end Go.Proofs.YtbmnaehodmgibaaGreatDoor
end
section
namespace Go.Proofs.YtbmnaehodmgibaaGreatDoor
open Go.AI Go.G
set_option maxRecDepth 20000
set_option maxHeartbeats 4000000 in
theorem serverSends_w (s : Sess) (p : Store) (hs : OkSess s) (hp : OkStore p) : CtJ errG Tryz.prog 6 [st (sessC s), st (storeC p)] [] [] (bool true) [] := by
  refine CtJ.of_body errK Tryz.func6 rfl mixed (by rw [Tryz.ntmps6]; simp) (CI.run 9999 400 rfl ?_)
  simp [Tryz.ntmps6, Tryz.results6]
  refine CI.callJ [] (awake20 ) Tryz.call9 rfl rfl rfl (by first | exact .inl rfl | exact .inr ⟨_, _, rfl, by simp⟩ | exact .inr ⟨_, _, rfl, by simp [*]⟩) rfl (by simp) (by constructor <;> simp [nmOk]) (by simp) (CI.runOps 9999 400 rfl ?_)
  simp [Tryz.ntmps6, Tryz.results6]
  refine CI.callP (few20_l s p hs hp) Tryz.call10 rfl rfl rfl (by first | exact .inl rfl | exact .inr ⟨_, _, rfl, by simp⟩ | exact .inr ⟨_, _, rfl, by simp [*]⟩) rfl (by simp) rfl rfl (CI.runOps 9999 400 rfl ?_)
  simp [Tryz.ntmps6, Tryz.results6]
  refine runI_gd_split (fun h1 => ?_) (fun h1 => ?_) <;> simp only [h1] <;> simp [Tryz.ntmps6, Tryz.results6]
  · first | (exact fin0 (by simp) rfl) | (refine ⟨by decide +kernel, ?_⟩; exact fin0 (by simp) rfl)
  have h1' : fewS 10 p = true ∧ fewV s.v = true := by simpa using h1
  have b1 := fewV_b h1'.2
  have b3 : p.hist.length ≤ 10 := by have := h1'.1; simp only [fewS, Bool.and_eq_true, decide_eq_true_eq] at this; exact this.2
  have b4 : ∀ l ∈ p.hist, l.length ≤ 1000 := by
    intro l hl
    have := h1'.1
    simp only [fewS, Bool.and_eq_true, List.all_eq_true] at this
    have := fewL_len (this.1 l hl)
    omega
  have c1 := b1.push.have_
  have c2 := b1.have_
  refine CI.callP (sess_l s (by omega)) Tryz.call13 rfl rfl rfl (by first | exact .inl rfl | exact .inr ⟨_, _, rfl, by simp⟩ | exact .inr ⟨_, _, rfl, by simp [*]⟩) rfl (by simp) rfl rfl (CI.runOps 9999 400 rfl ?_)
  simp [Tryz.ntmps6, Tryz.results6]
  refine CI.callP (saneS_p s hs (by omega)) Tryz.call12 rfl rfl rfl (by first | exact .inl rfl | exact .inr ⟨_, _, rfl, by simp⟩ | exact .inr ⟨_, _, rfl, by simp [*]⟩) rfl (by simp) rfl rfl (CI.runOps 9999 400 rfl ?_)
  simp [Tryz.ntmps6, Tryz.results6]
  refine runI_gd_split (fun h2 => ?_) (fun h2 => ?_) <;> simp only [h2] <;> simp [Tryz.ntmps6, Tryz.results6]
  · first | (exact fin0 (by simp) rfl) | (refine ⟨by decide +kernel, ?_⟩; exact fin0 (by simp) rfl)
  refine CI.callP (store_l p) Tryz.call15 rfl rfl rfl (by first | exact .inl rfl | exact .inr ⟨_, _, rfl, by simp⟩ | exact .inr ⟨_, _, rfl, by simp [*]⟩) rfl (by simp) rfl rfl (CI.runOps 9999 400 rfl ?_)
  simp [Tryz.ntmps6, Tryz.results6]
  refine CI.callP (psane_p p hp b4) Tryz.call33 rfl rfl rfl (by first | exact .inl rfl | exact .inr ⟨_, _, rfl, by simp⟩ | exact .inr ⟨_, _, rfl, by simp [*]⟩) rfl (by simp) rfl rfl (CI.runOps 9999 400 rfl ?_)
  simp [Tryz.ntmps6, Tryz.results6]
  refine runI_br_split (fun h3 => ?_) (fun h3 => ?_) <;> simp only [h3] <;> simp [Tryz.ntmps6, Tryz.results6]
  · first | (exact fin0 (by simp) rfl) | (refine ⟨by decide +kernel, ?_⟩; exact fin0 (by simp) rfl)
  have h2' : saneS s = true := by simpa using h2
  have h3' : sanS p = true := by simpa using h3
  have hw := now_tab h3'
  have hwl : (nowL p).length ≤ 64 := by
    unfold tabE at hw
    split at hw
    · cases hw
    · omega
  have hP := pump_s s p hs (by omega) (by omega) (fun _ => ⟨tabE_asc hw, by omega⟩)
  have hN := now_p p (by omega)
  refine CI.callP (sess_l s (by omega)) Tryz.call13 rfl rfl rfl (by first | exact .inl rfl | exact .inr ⟨_, _, rfl, by simp⟩ | exact .inr ⟨_, _, rfl, by simp [*]⟩) rfl (by simp) rfl rfl (CI.runOps 9999 400 rfl ?_)
  simp [Tryz.ntmps6, Tryz.results6]
  refine CI.callP (store_l p) Tryz.call15 rfl rfl rfl (by first | exact .inl rfl | exact .inr ⟨_, _, rfl, by simp⟩ | exact .inr ⟨_, _, rfl, by simp [*]⟩) rfl (by simp) rfl rfl (CI.runOps 9999 400 rfl ?_)
  simp [Tryz.ntmps6, Tryz.results6]
  rcases pump_cases h2' p with ⟨d1, d2⟩ | ⟨x, d1, d2, d3, d4, d5⟩
  · rcases hq : pump s p with ⟨t, l, e⟩
    rw [hq] at hP d1 d2
    dsimp only at d1 d2
    subst d1; subst d2
    have hd := saneS_p t hs (by omega)
    rw [h2'] at hd
    refine CI.callP (hP ) Tryz.call21 rfl rfl rfl (by first | exact .inl rfl | exact .inr ⟨_, _, rfl, by simp⟩ | exact .inr ⟨_, _, rfl, by simp [*]⟩) rfl (by simp) rfl rfl (CI.runOps 9999 400 rfl ?_)
    simp [Tryz.ntmps6, Tryz.results6]
    refine ⟨by decide +kernel, ?_⟩
    refine CI.callP (store_l p) Tryz.call15 rfl rfl rfl (by first | exact .inl rfl | exact .inr ⟨_, _, rfl, by simp⟩ | exact .inr ⟨_, _, rfl, by simp [*]⟩) rfl (by simp) rfl rfl (CI.runOps 9999 400 rfl ?_)
    simp [Tryz.ntmps6, Tryz.results6]
    refine CI.callP (hP ) Tryz.call21 rfl rfl rfl (by first | exact .inl rfl | exact .inr ⟨_, _, rfl, by simp⟩ | exact .inr ⟨_, _, rfl, by simp [*]⟩) rfl (by simp) rfl rfl (CI.runOps 9999 400 rfl ?_)
    simp [Tryz.ntmps6, Tryz.results6]
    refine ⟨by decide +kernel, ?_⟩
    refine CI.callP (store_l p) Tryz.call15 rfl rfl rfl (by first | exact .inl rfl | exact .inr ⟨_, _, rfl, by simp⟩ | exact .inr ⟨_, _, rfl, by simp [*]⟩) rfl (by simp) rfl rfl (CI.runOps 9999 400 rfl ?_)
    simp [Tryz.ntmps6, Tryz.results6]
    refine CI.callP (hN ) Tryz.call34 rfl rfl rfl (by first | exact .inl rfl | exact .inr ⟨_, _, rfl, by simp⟩ | exact .inr ⟨_, _, rfl, by simp [*]⟩) rfl (by simp) rfl rfl (CI.runOps 9999 400 rfl ?_)
    simp [Tryz.ntmps6, Tryz.results6]
    refine CI.callP (hd ) Tryz.call12 rfl rfl rfl (by first | exact .inl rfl | exact .inr ⟨_, _, rfl, by simp⟩ | exact .inr ⟨_, _, rfl, by simp [*]⟩) rfl (by simp) rfl rfl (CI.runOps 9999 400 rfl ?_)
    simp [Tryz.ntmps6, Tryz.results6]
    refine LoopI.inv mixed rfl (ι := Unit) (fun k => [(5, bool true), (7, lst []), (14, int 0)]) (fun k => []) 64 (fun k => 0) () [] (by constructor <;> simp) ?_
    rintro ⟨⟩ B hB
    refine CI.run 9999 400 rfl ?_
    simp [Tryz.ntmps6, Tryz.results6]
    first | (exact fin0 (by simp) rfl) | (refine ⟨by decide +kernel, ?_⟩; exact fin0 (by simp) rfl)
  · have hS := sent_ok h2' h3' d1 d3 d4
    rw [d5] at hP
    clear d5
    generalize pushF s x (Nonce.push s.out x.kind).2.1 = f at hP hS
    generalize ({ s with v := sentV s.v f, out := (Nonce.push s.out x.kind).1 } : Sess) = t at hP hS
    have hfo := hS.ok (okRs_now hp)
    have hto : OkSess t := ⟨⟨by rw [hS.tview.1]; exact hs.v.have_, by rw [hS.tview.2]; exact hs.v.held, by rw [hS.tpush]; exact hfo⟩⟩
    have htl : t.v.have_.length ≤ 1000000 := by rw [hS.tview.1]; omega
    have hQ := pump_s t p hto htl (by omega) (fun _ => ⟨tabE_asc hw, by omega⟩)
    rw [pump_open hS.tsane p hS.topen] at hQ
    have hd := saneS_p t hto htl
    rw [hS.tsane] at hd
    have hR := resend_s t hto htl
    rw [resend_open hS.tsane hS.topen, hS.tpush] at hR
    have hF := frame_f f hfo
    rw [hS.sane] at hF
    refine CI.callP (hP ) Tryz.call21 rfl rfl rfl (by first | exact .inl rfl | exact .inr ⟨_, _, rfl, by simp⟩ | exact .inr ⟨_, _, rfl, by simp [*]⟩) rfl (by simp) rfl rfl (CI.runOps 9999 400 rfl ?_)
    simp [Tryz.ntmps6, Tryz.results6]
    refine ⟨by decide +kernel, ?_⟩
    refine CI.callP (store_l p) Tryz.call15 rfl rfl rfl (by first | exact .inl rfl | exact .inr ⟨_, _, rfl, by simp⟩ | exact .inr ⟨_, _, rfl, by simp [*]⟩) rfl (by simp) rfl rfl (CI.runOps 9999 400 rfl ?_)
    simp [Tryz.ntmps6, Tryz.results6]
    refine CI.callP (hQ ) Tryz.call21 rfl rfl rfl (by first | exact .inl rfl | exact .inr ⟨_, _, rfl, by simp⟩ | exact .inr ⟨_, _, rfl, by simp [*]⟩) rfl (by simp) rfl rfl (CI.runOps 9999 400 rfl ?_)
    simp [Tryz.ntmps6, Tryz.results6]
    refine ⟨by decide +kernel, ?_⟩
    refine CI.callP (store_l p) Tryz.call15 rfl rfl rfl (by first | exact .inl rfl | exact .inr ⟨_, _, rfl, by simp⟩ | exact .inr ⟨_, _, rfl, by simp [*]⟩) rfl (by simp) rfl rfl (CI.runOps 9999 400 rfl ?_)
    simp [Tryz.ntmps6, Tryz.results6]
    refine CI.callP (hN ) Tryz.call34 rfl rfl rfl (by first | exact .inl rfl | exact .inr ⟨_, _, rfl, by simp⟩ | exact .inr ⟨_, _, rfl, by simp [*]⟩) rfl (by simp) rfl rfl (CI.runOps 9999 400 rfl ?_)
    simp [Tryz.ntmps6, Tryz.results6]
    refine CI.callP (hd ) Tryz.call12 rfl rfl rfl (by first | exact .inl rfl | exact .inr ⟨_, _, rfl, by simp⟩ | exact .inr ⟨_, _, rfl, by simp [*]⟩) rfl (by simp) rfl rfl (CI.runOps 9999 400 rfl ?_)
    simp [Tryz.ntmps6, Tryz.results6]
    refine CI.callP (hR ) Tryz.call28 rfl rfl rfl (by first | exact .inl rfl | exact .inr ⟨_, _, rfl, by simp⟩ | exact .inr ⟨_, _, rfl, by simp [*]⟩) rfl (by simp) rfl rfl (CI.runOps 9999 400 rfl ?_)
    simp [Tryz.ntmps6, Tryz.results6]
    have hm0 : ∀ g ∈ [f], g.have_.length ≤ 1000000 := by intro g hg; rw [List.mem_singleton.1 hg, hS.marks]; simp
    have hm1 : ∀ g ∈ [f], OkFrame g := by intro g hg; rw [List.mem_singleton.1 hg]; exact hfo
    refine CI.callP (list_l [f] (by simp) hm0) Tryz.call26 rfl rfl rfl (by first | exact .inl rfl | exact .inr ⟨_, _, rfl, by simp⟩ | exact .inr ⟨_, _, rfl, by simp [*]⟩) rfl (by simp) rfl rfl (CI.runOps 9999 400 rfl ?_)
    simp [Tryz.ntmps6, Tryz.results6]
    refine CI.callP (list_l [f] (by simp) hm0) Tryz.call26 rfl rfl rfl (by first | exact .inl rfl | exact .inr ⟨_, _, rfl, by simp⟩ | exact .inr ⟨_, _, rfl, by simp [*]⟩) rfl (by simp) rfl rfl (CI.runOps 9999 400 rfl ?_)
    simp [Tryz.ntmps6, Tryz.results6]
    refine CI.callP (frames_r [f] [f] (by simp) hm1) Tryz.call25 rfl rfl rfl (by first | exact .inl rfl | exact .inr ⟨_, _, rfl, by simp⟩ | exact .inr ⟨_, _, rfl, by simp [*]⟩) rfl (by simp) rfl rfl (CI.runOps 9999 400 rfl ?_)
    simp [Tryz.ntmps6, Tryz.results6]
    have e1 := hS.type
    have e2 := hS.epoch
    have e3 := hS.al
    have e4 := hS.gl
    have e5 := hS.many
    have e6 : IntKind.wrap .i64 ((f.adds.length : Int) + f.gone.length) = f.adds.length + f.gone.length := wrap_i64 (by omega) (by omega)
    have e7 : ¬ (f.adds.length : Int) + f.gone.length = 0 := by omega
    refine LoopI.inv mixed rfl (ι := Bool) (fun k => [(2, .ptr 64 0), (5, bool true), (7, lst ([f].map frameC)), (13, lst ((lastS (takenS p)).map resC)), (14, int (bif k then 0 else 1))]) (fun k => [(64, .cells ((sessC s).map .d) 35)]) 65 (fun k => (bif k then 1 else 0)) true [] (by constructor <;> simp) ?_
    rintro (_ | _) B0 hB0
    · refine CI.run 9999 400 rfl ?_
      simp [Tryz.ntmps6, Tryz.results6]
      first | (exact fin0 (by simp) rfl) | (refine ⟨by decide +kernel, ?_⟩; exact fin0 (by simp) rfl)
    refine CI.run 9999 400 rfl ?_
    simp [d2, d3, Tryz.ntmps6, Tryz.results6]
    refine CI.callP (hF ) Tryz.call22 rfl rfl rfl (by first | exact .inl rfl | exact .inr ⟨_, _, rfl, by simp⟩ | exact .inr ⟨_, _, rfl, by simp [*]⟩) rfl (by simp [e1, e2, e6, e7]) rfl rfl (CI.runOps 9999 400 rfl ?_)
    simp [e1, e2, e6, e7, Tryz.ntmps6, Tryz.results6]
    refine LoopI.inv mixed rfl (ι := {k : Nat // k ≤ (f.adds).length}) (fun k => [(2, .ptr 64 0), (5, bool true), (7, lst ([f].map frameC)), (13, lst ((lastS (takenS p)).map resC)), (14, int 0), (15, .ptr 65 0), (16, int k.1)]) (fun k => [(64, .cells ((sessC s).map .d) 35), (65, .cells ((frameC f).map .d) 46)]) 66 (fun k => (f.adds).length - k.1) ⟨0, by omega⟩ [] (by constructor <;> simp [e1, e2, d2, d3]) ?_
    rintro ⟨k, hk1⟩ B hB
    refine CI.run 9999 400 rfl ?_
    simp [e1, e2, d2, d3, Tryz.ntmps6, Tryz.results6]
    refine runI_br_split (fun h => ?_) (fun h => ?_)
    · have hk : k < (f.adds).length := by simpa using h
      have hr : (f.adds)[k]? = some (f.adds)[k] := List.getElem?_eq_getElem hk
      have hm : (f.adds)[k] ∈ (f.adds) := List.getElem_mem hk
      have ht : (f.adds).take (k + 1) = (f.adds).take k ++ [(f.adds)[k]] := by rw [List.take_add_one, hr]; rfl
      have hd : (f.adds).drop k = (f.adds)[k] :: (f.adds).drop (k + 1) := List.drop_eq_getElem_cons hk
      have hw : IntKind.wrap .i64 ((k : Int) + 1) = k + 1 := wrap_i64 (by omega) (by omega)
      obtain ⟨r, hx⟩ : ∃ x0, (f.adds)[k] = x0 := ⟨_, rfl⟩
      rw [hx] at hr hm ht hd
      simp only [h]
      simp [hr, hw, Tryz.ntmps6, Tryz.results6]
      have g1 : getR (lastS (takenS p)) r.key = some r := hS.adds r hm
      have gp := get_p (lastS (takenS p)) r.key (by have : (lastS (takenS p)).length ≤ 64 := hwl; omega)
      simp only [getA, g1, Option.getD_some, Option.isSome_some] at gp
      refine CI.callP (gp ) Tryz.call35 rfl rfl rfl (by first | exact .inl rfl | exact .inr ⟨_, _, rfl, by simp⟩ | exact .inr ⟨_, _, rfl, by simp [*]⟩) rfl (by simp [Res.key, hr]) rfl rfl (CI.runOps 9999 400 rfl ?_)
      simp [Res.key, hr, Tryz.ntmps6, Tryz.results6]
      refine ⟨by decide +kernel, ?_⟩
      refine ⟨by decide +kernel, ?_⟩
      refine hB _ ⟨k + 1, by omega⟩ [] ?_ (by simp; omega)
      constructor <;> simp [hw, ht, e1, e2, d2, d3]
    · have hkl : k = (f.adds).length := by simp at h; omega
      subst hkl
      simp only [h]
      simp [List.take_length, List.drop_length, Tryz.ntmps6, Tryz.results6]
      refine LoopI.inv mixed rfl (ι := {k : Nat // k ≤ f.gone.length}) (fun k => [(2, .ptr 64 0), (5, bool true), (7, lst ([f].map frameC)), (13, lst ((lastS (takenS p)).map resC)), (14, int 0), (15, .ptr 65 0), (19, int k.1)]) (fun k => [(64, .cells ((sessC s).map .d) 35), (65, .cells ((frameC f).map .d) 46)]) 66 (fun k => f.gone.length - k.1) ⟨0, by omega⟩ [] (by constructor <;> simp [e1, e2, d2, d3]) ?_
      rintro ⟨k, hk1⟩ B' hB'
      refine CI.run 9999 400 rfl ?_
      simp [Tryz.ntmps6, Tryz.results6]
      refine runI_gd_split (fun h => ?_) (fun h => ?_) <;> simp only [h] <;> simp [Tryz.ntmps6, Tryz.results6]
      · refine runI_br_split (fun hkd => ?_) (fun hkd => ?_) <;> simp only [hkd] <;> simp [Tryz.ntmps6, Tryz.results6]
        · have hkd' : ¬ f.kind = 0 := by simpa using hkd
          have hk : k < f.gone.length := by simpa using h
          have hr : f.gone[k]? = some f.gone[k] := List.getElem?_eq_getElem hk
          have hm : f.gone[k] ∈ f.gone := List.getElem_mem hk
          have hw' : IntKind.wrap .i64 ((k : Int) + 1) = k + 1 := wrap_i64 (by omega) (by omega)
          generalize f.gone[k] = y at hr hm
          obtain ⟨n1, n2⟩ := hS.gone hkd' y hm
          simp [hr, Tryz.ntmps6, Tryz.results6]
          refine CI.callP (has_r s.v.held y hs.v.held) Tryz.call36 rfl rfl rfl (by first | exact .inl rfl | exact .inr ⟨_, _, rfl, by simp⟩ | exact .inr ⟨_, _, rfl, by simp [*]⟩) rfl (by simp [hr]) rfl rfl (CI.runOps 9999 400 rfl ?_)
          simp [hr, Tryz.ntmps6, Tryz.results6]
          simp [n1, hr, Tryz.ntmps6, Tryz.results6]
          have n3 : ¬ ∃ x, x ∈ s.v.have_ ∧ y ∈ refsK x := by
            rintro ⟨x, hx1, hx2⟩
            have : x.key ∈ refersR s.v.have_ y := List.mem_map.2 ⟨x, List.mem_filter.2 ⟨hx1, by simpa using hx2⟩, rfl⟩
            rw [List.length_eq_zero_iff.1 n2] at this
            cases this
          refine CI.callP (refers_p s.v.have_ y (by omega)) Tryz.call37 rfl rfl rfl (by first | exact .inl rfl | exact .inr ⟨_, _, rfl, by simp⟩ | exact .inr ⟨_, _, rfl, by simp [*]⟩) rfl (by simp [hr, n3]) rfl rfl (CI.runOps 9999 400 rfl ?_)
          simp [hr, n3, Tryz.ntmps6, Tryz.results6]
          refine ⟨by decide +kernel, ?_⟩
          refine hB' _ ⟨k + 1, by omega⟩ [] ?_ (by simp; omega)
          constructor <;> simp [hw', e1, e2, d2, d3]
        · refine hB0 _ false [] ?_ (by simp)
          constructor <;> simp [e1, e2, d2, d3]
      · refine hB0 _ false [] ?_ (by simp)
        constructor <;> simp [e1, e2, d2, d3]
end Go.Proofs.YtbmnaehodmgibaaGreatDoor
end
