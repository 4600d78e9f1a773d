/-
  LAYERS 10, 13, 20: the walks of numbers of pushes, of frames, of sessions.
-/
import Derived.Test.YtbmnaehodmgibaaGreatDoorWa
import Derived.Test.YtbmnaehodmgibaaGreatDoorPs
import Derived.Test.YtbmnaehodmgibaaGreatDoorFe
import Derived.Test.YtbmnaehodmgibaaGreatDoorFc
import Derived.Test.YtbmnaehodmgibaaGreatDoorWe
import Derived.Test.YtbmnaehodmgibaaGreatDoorWf
set_option linter.unusedSimpArgs false
set_option linter.unusedVariables false
section
namespace Go.Proofs.YtbmnaehodmgibaaGreatDoor
open Go.AI Go.G
set_option maxRecDepth 20000
abbrev nnC (i : Nonce.Nn) : List D := [iD i.l0, iD i.l1, iD i.l2, iD i.l3, iD i.m]
theorem bnd_p (n : Int) : Ct Tryz.prog 124 [int n] [] [] (int (Nonce.bnd n)) [] := by
  refine Ct.of_body Tryz.func124 rfl mixed (by rw [Tryz.ntmps124]; simp) (CW.run 9999 400 rfl ?_)
  simp [Tryz.ntmps124, Tryz.results124]
  have e := bnd_min n
  first | (exact fin0 (by simp [e]) rfl) | (refine ⟨by decide +kernel, ?_⟩; exact fin0 (by simp [e]) rfl)
theorem start_p (n : Int) : Ct Tryz.prog 60 [int n] [] [] (.tup [st (ouC (Nonce.startO n)), st (nnC (Nonce.startI n))]) [] := by
  refine Ct.of_body Tryz.func60 rfl mixed (by rw [Tryz.ntmps60]; simp) (CW.run 9999 400 rfl ?_)
  simp [Tryz.ntmps60, Tryz.results60]
  refine CW.callP (bnd_p n) Tryz.call124 rfl rfl rfl (by first | exact .inl rfl | exact .inr ⟨_, _, rfl, by simp⟩ | exact .inr ⟨_, _, rfl, by simp [*]⟩) rfl (by simp) rfl rfl (CW.runOps 9999 400 rfl ?_)
  simp [Tryz.ntmps60, Tryz.results60]
  first | (exact fin0 (by simp [Nonce.startO, Nonce.startI]) rfl) | (refine ⟨by decide +kernel, ?_⟩; exact fin0 (by simp [Nonce.startO, Nonce.startI]) rfl)
theorem knownN_p (k_ : Int) : Ct Tryz.prog 129 [int k_] [] [] (bool (Nonce.kindB k_)) [] := by
  refine Ct.of_body Tryz.func129 rfl mixed (by rw [Tryz.ntmps129]; simp) (CW.run 9999 400 rfl ?_)
  simp [Tryz.ntmps129, Tryz.results129]
  refine run_gd_split (fun h1 => ?_) (fun h1 => ?_) <;> simp only [h1] <;> simp [Tryz.ntmps129, Tryz.results129] <;> (try simp only [Bool.not_eq_true', Bool.not_eq_false', decide_eq_true_eq, decide_eq_false_iff_not] at h1)
  · first | (exact fin0 (by simp [Nonce.kindB, h1]) rfl) | (refine ⟨by decide +kernel, ?_⟩; exact fin0 (by simp [Nonce.kindB, h1]) rfl)
  · first | (exact fin0 (by simp [Nonce.kindB, h1]) rfl) | (refine ⟨by decide +kernel, ?_⟩; exact fin0 (by simp [Nonce.kindB, h1]) rfl)
theorem soundN_p (i : Nonce.Nn) : Ct Tryz.prog 118 [st (nnC i)] [] [] (bool (Nonce.soundB i)) [] := by
  refine Ct.of_body Tryz.func118 rfl mixed (by rw [Tryz.ntmps118]; simp) (CW.run 9999 400 rfl ?_)
  simp [Tryz.ntmps118, Tryz.results118]
  refine LoopW.unroll mixed (Plain.retC _ _ _ _ _) rfl ?_
  refine CW.run 9999 400 rfl ?_
  simp [Tryz.ntmps118, Tryz.results118]
  refine ⟨by decide +kernel, ?_⟩
  refine LoopW.unroll mixed (Plain.retC _ _ _ _ _) rfl ?_
  refine CW.run 9999 400 rfl ?_
  simp [Tryz.ntmps118, Tryz.results118]
  refine ⟨by decide +kernel, ?_⟩
  refine LoopW.unroll mixed (Plain.retC _ _ _ _ _) rfl ?_
  refine CW.run 9999 400 rfl ?_
  simp [Tryz.ntmps118, Tryz.results118]
  refine ⟨by decide +kernel, ?_⟩
  refine LoopW.unroll mixed (Plain.retC _ _ _ _ _) rfl ?_
  refine CW.run 9999 400 rfl ?_
  simp [Tryz.ntmps118, Tryz.results118]
  refine ⟨by decide +kernel, ?_⟩
  refine LoopW.unroll mixed (Plain.retC _ _ _ _ _) rfl ?_
  refine CW.run 9999 400 rfl ?_
  simp [Tryz.ntmps118, Tryz.results118]
  refine run_gd_split (fun h => ?_) (fun h => ?_) <;> simp only [h] <;> simp [Tryz.ntmps118, Tryz.results118]
  · refine CW.callP (bnd_p i.m) Tryz.call124 rfl rfl rfl (by first | exact .inl rfl | exact .inr ⟨_, _, rfl, by simp⟩ | exact .inr ⟨_, _, rfl, by simp [*]⟩) rfl (by simp) rfl rfl (CW.runOps 9999 400 rfl ?_)
    simp [Tryz.ntmps118, Tryz.results118]
    have e := sound_yes i h
    first | (exact fin0 (by simp [e]) rfl) | (refine ⟨by decide +kernel, ?_⟩; exact fin0 (by simp [e]) rfl)
  · have e := sound_no i h
    first | (exact fin0 (by simp [e]) rfl) | (refine ⟨by decide +kernel, ?_⟩; exact fin0 (by simp [e]) rfl)
theorem good_p (o : Nonce.Ou) : Ct Tryz.prog 51 [st (ouC o)] [] [] (bool (Nonce.goodB o)) [] := by
  refine Ct.of_body Tryz.func51 rfl mixed (by rw [Tryz.ntmps51]; simp) (CW.run 9999 400 rfl ?_)
  simp [Tryz.ntmps51, Tryz.results51]
  obtain ⟨a, b, c, d, x, y, z, t, m⟩ := o
  refine LoopW.unroll mixed (Plain.retC _ _ _ _ _) rfl ?_
  refine CW.run 9999 400 rfl ?_
  simp [Tryz.ntmps51, Tryz.results51]
  repeat' first
    | (refine run_gd_split (fun h => ?_) (fun h => ?_) <;> simp only [h] <;> simp [h, Tryz.ntmps51, Tryz.results51])
    | (refine run_br_split (fun h => ?_) (fun h => ?_) <;> simp only [h] <;> simp [h, Tryz.ntmps51, Tryz.results51])
    | (refine ⟨(show DrawSide _ _ from by decide +kernel), ?_⟩)
    | fail
  all_goals (first | (exact fin0 (by simp [Nonce.goodB, *]) rfl) | (refine ⟨by decide +kernel, ?_⟩; exact fin0 (by simp [Nonce.goodB, *]) rfl) | skip)
  all_goals
    refine LoopW.unroll mixed (Plain.retC _ _ _ _ _) rfl ?_
    refine CW.run 9999 400 rfl ?_
    simp [Tryz.ntmps51, Tryz.results51]
  repeat' first
    | (refine run_gd_split (fun h => ?_) (fun h => ?_) <;> simp only [h] <;> simp [h, Tryz.ntmps51, Tryz.results51])
    | (refine run_br_split (fun h => ?_) (fun h => ?_) <;> simp only [h] <;> simp [h, Tryz.ntmps51, Tryz.results51])
    | (refine ⟨(show DrawSide _ _ from by decide +kernel), ?_⟩)
    | fail
  all_goals (first | (exact fin0 (by simp [Nonce.goodB, *]) rfl) | (refine ⟨by decide +kernel, ?_⟩; exact fin0 (by simp [Nonce.goodB, *]) rfl) | skip)
  all_goals
    refine LoopW.unroll mixed (Plain.retC _ _ _ _ _) rfl ?_
    refine CW.run 9999 400 rfl ?_
    simp [Tryz.ntmps51, Tryz.results51]
  repeat' first
    | (refine run_gd_split (fun h => ?_) (fun h => ?_) <;> simp only [h] <;> simp [h, Tryz.ntmps51, Tryz.results51])
    | (refine run_br_split (fun h => ?_) (fun h => ?_) <;> simp only [h] <;> simp [h, Tryz.ntmps51, Tryz.results51])
    | (refine ⟨(show DrawSide _ _ from by decide +kernel), ?_⟩)
    | fail
  all_goals (first | (exact fin0 (by simp [Nonce.goodB, *]) rfl) | (refine ⟨by decide +kernel, ?_⟩; exact fin0 (by simp [Nonce.goodB, *]) rfl) | skip)
  all_goals
    refine LoopW.unroll mixed (Plain.retC _ _ _ _ _) rfl ?_
    refine CW.run 9999 400 rfl ?_
    simp [Tryz.ntmps51, Tryz.results51]
  repeat' first
    | (refine run_gd_split (fun h => ?_) (fun h => ?_) <;> simp only [h] <;> simp [h, Tryz.ntmps51, Tryz.results51])
    | (refine run_br_split (fun h => ?_) (fun h => ?_) <;> simp only [h] <;> simp [h, Tryz.ntmps51, Tryz.results51])
    | (refine ⟨(show DrawSide _ _ from by decide +kernel), ?_⟩)
    | fail
  all_goals (first | (exact fin0 (by simp [Nonce.goodB, *]) rfl) | (refine ⟨by decide +kernel, ?_⟩; exact fin0 (by simp [Nonce.goodB, *]) rfl) | skip)
  all_goals
    refine LoopW.unroll mixed (Plain.retC _ _ _ _ _) rfl ?_
    refine CW.run 9999 400 rfl ?_
    simp [Tryz.ntmps51, Tryz.results51]
  all_goals
    refine CW.callP (soundN_p ⟨a, b, c, d, m⟩) Tryz.call118 rfl rfl rfl (by first | exact .inl rfl | exact .inr ⟨_, _, rfl, by simp⟩ | exact .inr ⟨_, _, rfl, by simp [*]⟩) rfl (by simp) rfl rfl (CW.runOps 9999 400 rfl ?_)
    simp [Tryz.ntmps51, Tryz.results51]
  all_goals (first | (exact fin0 (by simp [Nonce.goodB, Nonce.Ou.toI, *]) rfl) | (refine ⟨by decide +kernel, ?_⟩; exact fin0 (by simp [Nonce.goodB, Nonce.Ou.toI, *]) rfl))
theorem out_p (o : Nonce.Ou) : Ct Tryz.prog 128 [st (ouC o)] [] [] (st (ouC (Nonce.outF o))) [] := by
  refine Ct.of_body Tryz.func128 rfl mixed (by rw [Tryz.ntmps128]; simp) (CW.run 9999 400 rfl ?_)
  simp [Tryz.ntmps128, Tryz.results128]
  refine CW.callP (good_p o) Tryz.call51 rfl rfl rfl (by first | exact .inl rfl | exact .inr ⟨_, _, rfl, by simp⟩ | exact .inr ⟨_, _, rfl, by simp [*]⟩) rfl (by simp) rfl rfl (CW.runOps 9999 400 rfl ?_)
  simp [Tryz.ntmps128, Tryz.results128]
  refine run_br_split (fun h1 => ?_) (fun h1 => ?_) <;> simp only [h1] <;> simp [Tryz.ntmps128, Tryz.results128] <;> (try simp only [Bool.not_eq_true', Bool.not_eq_false', decide_eq_true_eq, decide_eq_false_iff_not] at h1)
  · first | (exact fin0 (by simp [Nonce.outF, h1]) rfl) | (refine ⟨by decide +kernel, ?_⟩; exact fin0 (by simp [Nonce.outF, h1]) rfl)
  · refine CW.callP (start_p o.m) Tryz.call60 rfl rfl rfl (by first | exact .inl rfl | exact .inr ⟨_, _, rfl, by simp⟩ | exact .inr ⟨_, _, rfl, by simp [*]⟩) rfl (by simp) rfl rfl (CW.runOps 9999 400 rfl ?_)
    simp [Tryz.ntmps128, Tryz.results128]
    first | (exact fin0 (by simp [Nonce.outF, h1]) rfl) | (refine ⟨by decide +kernel, ?_⟩; exact fin0 (by simp [Nonce.outF, h1]) rfl)
theorem npush_p (o : Nonce.Ou) (k_ : Int) : Ct Tryz.prog 62 [st (ouC o), int k_] [] [] (.tup [st (ouC (Nonce.push o k_).1), int (Nonce.push o k_).2.1, int (Nonce.push o k_).2.2]) [] := by
  refine Ct.of_body Tryz.func62 rfl mixed (by rw [Tryz.ntmps62]; simp) (CW.run 9999 400 rfl ?_)
  simp [Tryz.ntmps62, Tryz.results62]
  refine CW.callP (out_p o) Tryz.call128 rfl rfl rfl (by first | exact .inl rfl | exact .inr ⟨_, _, rfl, by simp⟩ | exact .inr ⟨_, _, rfl, by simp [*]⟩) rfl (by simp) rfl rfl (CW.runOps 9999 400 rfl ?_)
  simp [Tryz.ntmps62, Tryz.results62]
  simp only [Nonce.push]
  have hb := Nonce.outF_ok o
  generalize Nonce.outF o = q at hb ⊢
  obtain ⟨A, B, C, D, X, Y, Z, T, M⟩ := q
  simp only [Nonce.Ou.ok] at hb
  have wA : IntKind.wrap .i64 (A + 1) = A + 1 := wrap_i64 (by omega) (by omega)
  have wB : IntKind.wrap .i64 (B + 1) = B + 1 := wrap_i64 (by omega) (by omega)
  have wC : IntKind.wrap .i64 (C + 1) = C + 1 := wrap_i64 (by omega) (by omega)
  have wD : IntKind.wrap .i64 (D + 1) = D + 1 := wrap_i64 (by omega) (by omega)
  refine CW.callP (knownN_p k_) Tryz.call129 rfl rfl rfl (by first | exact .inl rfl | exact .inr ⟨_, _, rfl, by simp⟩ | exact .inr ⟨_, _, rfl, by simp [*]⟩) rfl (by simp) rfl rfl (CW.runOps 9999 400 rfl ?_)
  simp [Tryz.ntmps62, Tryz.results62]
  by_cases hk : Nonce.kindB k_ = true
  · rcases Nonce.kindB_is hk with rfl | rfl | rfl | rfl
    all_goals
      simp [hk, Tryz.ntmps62, Tryz.results62]
    all_goals
      repeat' first
        | (refine run_gd_split (fun h => ?_) (fun h => ?_) <;> simp only [h] <;> simp [h, wA, wB, wC, wD, Tryz.ntmps62, Tryz.results62])
        | (refine run_br_split (fun h => ?_) (fun h => ?_) <;> simp only [h] <;> simp [h, wA, wB, wC, wD, Tryz.ntmps62, Tryz.results62])
        | (refine ⟨(show DrawSide _ _ from by decide +kernel), ?_⟩)
        | fail
    all_goals
      clear wA wB wC wD
      first
        | (refine fin0 ?_ rfl; simp_all [Nonce.pushQ, Nonce.Ou.open', Nonce.Ou.last, Nonce.Ou.set]; done)
        | (refine ⟨by decide +kernel, fin0 ?_ rfl⟩; simp_all [Nonce.pushQ, Nonce.Ou.open', Nonce.Ou.last, Nonce.Ou.set]; done)
  · simp [hk, Tryz.ntmps62, Tryz.results62]
    first | (exact fin0 (by simp [Nonce.pushQ, hk]) rfl) | (refine ⟨by decide +kernel, ?_⟩; exact fin0 (by simp [Nonce.pushQ, hk]) rfl)
theorem ndone_p (o : Nonce.Ou) (k_ n : Int) : Ct Tryz.prog 188 [st (ouC o), int k_, int n] [] [] (.tup [st (ouC (Nonce.done o k_ n).1), int (Nonce.done o k_ n).2]) [] := by
  refine Ct.of_body Tryz.func188 rfl mixed (by rw [Tryz.ntmps188]; simp) (CW.run 9999 400 rfl ?_)
  simp [Tryz.ntmps188, Tryz.results188]
  refine CW.callP (out_p o) Tryz.call128 rfl rfl rfl (by first | exact .inl rfl | exact .inr ⟨_, _, rfl, by simp⟩ | exact .inr ⟨_, _, rfl, by simp [*]⟩) rfl (by simp) rfl rfl (CW.runOps 9999 400 rfl ?_)
  simp [Tryz.ntmps188, Tryz.results188]
  simp only [Nonce.done]
  generalize Nonce.outF o = q
  obtain ⟨A, B, C, D, X, Y, Z, T, M⟩ := q
  refine CW.callP (knownN_p k_) Tryz.call129 rfl rfl rfl (by first | exact .inl rfl | exact .inr ⟨_, _, rfl, by simp⟩ | exact .inr ⟨_, _, rfl, by simp [*]⟩) rfl (by simp) rfl rfl (CW.runOps 9999 400 rfl ?_)
  simp [Tryz.ntmps188, Tryz.results188]
  by_cases hk : Nonce.kindB k_ = true
  · rcases Nonce.kindB_is hk with rfl | rfl | rfl | rfl
    all_goals
      simp [hk, Tryz.ntmps188, Tryz.results188]
    all_goals
      repeat' first
        | (refine run_gd_split (fun h => ?_) (fun h => ?_) <;> simp only [h] <;> simp [h, Tryz.ntmps188, Tryz.results188])
        | (refine run_br_split (fun h => ?_) (fun h => ?_) <;> simp only [h] <;> simp [h, Tryz.ntmps188, Tryz.results188])
        | (refine ⟨(show DrawSide _ _ from by decide +kernel), ?_⟩)
        | fail
    all_goals
      first
        | (refine fin0 ?_ rfl; simp_all [Nonce.doneQ, Nonce.Ou.open', Nonce.Ou.last, Nonce.Ou.set]; done)
        | (refine ⟨by decide +kernel, fin0 ?_ rfl⟩; simp_all [Nonce.doneQ, Nonce.Ou.open', Nonce.Ou.last, Nonce.Ou.set]; done)
  · simp [hk, Tryz.ntmps188, Tryz.results188]
    first | (exact fin0 (by simp [Nonce.doneQ, hk]) rfl) | (refine ⟨by decide +kernel, ?_⟩; exact fin0 (by simp [Nonce.doneQ, hk]) rfl)
end Go.Proofs.YtbmnaehodmgibaaGreatDoor
end
section
namespace Go.Proofs.YtbmnaehodmgibaaGreatDoor
open Go.AI Go.G
set_option maxRecDepth 20000
theorem idx_mark (l : List G.Mark) (kf : D) (p : G.Mark → Bool) (hf : ∀ x ∈ l, FnOk Tryz.prog (.d kf) [st (markC x)] (bool (p x))) (hl : l.length ≤ 9223372036854775807) : Ct Tryz.prog 195 [lst (l.map markC), .d kf] [] [] (int (idxF p l)) [] := by
  refine Ct.of_body Tryz.func195 rfl mixed (by rw [Tryz.ntmps195]; simp) (CW.run 9999 400 rfl ?_)
  simp [Tryz.ntmps195, Tryz.results195]
  refine LoopW.inv mixed (Plain.retC _ _ _ _ _) rfl (ι := {k : Nat // k ≤ (l).length ∧ (l.take k).all (fun x => !p x) = true}) (fun k => [(0, lst (l.map markC)), (1, .d kf), (7, int l.length), (8, int k.1)]) (fun k => []) 64 (fun k => (l).length - k.1) ⟨0, by omega, by simp⟩ [] (by constructor <;> simp) ?_
  rintro ⟨k, hk1, hi⟩ B hB
  refine CW.run 9999 400 rfl ?_
  simp [Tryz.ntmps195, Tryz.results195]
  refine run_br_split (fun h => ?_) (fun h => ?_)
  · have hk : k < (l).length := by simpa using h
    have hr : (l)[k]? = some (l)[k] := List.getElem?_eq_getElem hk
    have hm : (l)[k] ∈ (l) := List.getElem_mem hk
    have ht : (l).take (k + 1) = (l).take k ++ [(l)[k]] := by rw [List.take_add_one, hr]; rfl
    have hd : (l).drop k = (l)[k] :: (l).drop (k + 1) := List.drop_eq_getElem_cons hk
    have hw : IntKind.wrap .i64 ((k : Int) + 1) = k + 1 := wrap_i64 (by omega) (by omega)
    obtain ⟨r, hx⟩ : ∃ x0, (l)[k] = x0 := ⟨_, rfl⟩
    rw [hx] at hr hm ht hd
    simp only [h]
    simp [hr, hw, Tryz.ntmps195, Tryz.results195]
    refine CW.callF (hf r hm) rfl rfl rfl (by first | exact .inl rfl | exact .inr ⟨_, _, rfl, by simp⟩ | exact .inr ⟨_, _, rfl, by simp [*]⟩) rfl (by simp) (CW.runOps 9999 400 rfl ?_)
    simp [Tryz.ntmps195, Tryz.results195]
    refine run_br_split (fun hp => ?_) (fun hp => ?_) <;> simp only [hp] <;> simp [Tryz.ntmps195, Tryz.results195]
    · first | (exact fin0 (by simp [idxF_at hi hr hp]) rfl) | (refine ⟨by decide +kernel, ?_⟩; exact fin0 (by simp [idxF_at hi hr hp]) rfl)
    · refine hB _ ⟨k + 1, by omega, by simp [ht, hi, hp]⟩ [] ?_ (by simp; omega)
      constructor <;> simp [hw, ht, hp]
  · have hkl : k = (l).length := by simp at h; omega
    subst hkl
    simp only [h]
    simp [List.take_length, List.drop_length, Tryz.ntmps195, Tryz.results195]
    rw [List.take_length] at hi
    first | (exact fin0 (by simp [idxF_none (fun x hx => by have := List.all_eq_true.1 hi x hx; simpa using this)]) rfl) | (refine ⟨by decide +kernel, ?_⟩; exact fin0 (by simp [idxF_none (fun x hx => by have := List.all_eq_true.1 hi x hx; simpa using this)]) rfl)
theorem any_mark (l : List G.Mark) (kf : D) (p : G.Mark → Bool) (hf : ∀ x ∈ l, FnOk Tryz.prog (.d kf) [st (markC x)] (bool (p x))) (hl : l.length ≤ 9223372036854775807) : Ct Tryz.prog 130 [lst (l.map markC), .d kf] [] [] (bool (l.any p)) [] := by
  refine Ct.of_body Tryz.func130 rfl mixed (by rw [Tryz.ntmps130]; simp) (CW.run 9999 400 rfl ?_)
  simp [Tryz.ntmps130, Tryz.results130]
  refine CW.callP (idx_mark l kf p hf hl) Tryz.call195 rfl rfl rfl (by first | exact .inl rfl | exact .inr ⟨_, _, rfl, by simp⟩ | exact .inr ⟨_, _, rfl, by simp [*]⟩) rfl (by simp) rfl rfl (CW.runOps 9999 400 rfl ?_)
  simp [Tryz.ntmps130, Tryz.results130]
  rw [idxF_any]
  first | (exact fin0 (by simp) rfl) | (refine ⟨by decide +kernel, ?_⟩; exact fin0 (by simp) rfl)
theorem within_f (n m : Int) : Ct Tryz.prog 66 [int n, int m] [] [] (bool (rngB n m)) [] := by
  refine Ct.of_body Tryz.func66 rfl mixed (by rw [Tryz.ntmps66]; simp) (CW.run 9999 400 rfl ?_)
  simp [Tryz.ntmps66, Tryz.results66]
  repeat' first
    | (refine run_gd_split (fun h => ?_) (fun h => ?_) <;> simp only [h] <;> simp [h, Tryz.ntmps66, Tryz.results66])
    | (refine run_br_split (fun h => ?_) (fun h => ?_) <;> simp only [h] <;> simp [h, Tryz.ntmps66, Tryz.results66])
    | (refine ⟨(show DrawSide _ _ from by decide +kernel), ?_⟩)
    | fail
  all_goals exact fin0 (by simp [*, rngB]) rfl
theorem unless_f (b : Bool) (e : Int) : Ct Tryz.prog 65 [bool b, int e] [] [] (int (if b = true then 0 else e)) [] := by
  refine Ct.of_body Tryz.func65 rfl mixed (by rw [Tryz.ntmps65]; simp) (CW.run 9999 400 rfl ?_)
  simp [Tryz.ntmps65, Tryz.results65]
  refine run_br_split (fun h1 => ?_) (fun h1 => ?_) <;> simp only [h1] <;> simp [Tryz.ntmps65, Tryz.results65]
  · first | (exact fin0 (by simp [h1]) rfl) | (refine ⟨by decide +kernel, ?_⟩; exact fin0 (by simp [h1]) rfl)
  · first | (exact fin0 (by simp [h1]) rfl) | (refine ⟨by decide +kernel, ?_⟩; exact fin0 (by simp [h1]) rfl)
theorem first_f (l : List Int) (hl : l.length ≤ 1000) : Ct Tryz.prog 64 [lst (l.map intC)] [] [] (int ((l.find? fun e => !decide (e = 0)).getD 0)) [] := by
  refine Ct.of_body Tryz.func64 rfl mixed (by rw [Tryz.ntmps64]; simp) (CW.run 9999 400 rfl ?_)
  simp [Tryz.ntmps64, Tryz.results64]
  refine LoopW.inv mixed (Plain.retC _ _ _ _ _) rfl (ι := {k : Nat // k ≤ (l).length ∧ (l.take k).all (fun e => decide (e = 0)) = true}) (fun k => [(5, lst (l.map intC)), (6, int l.length), (7, int k.1)]) (fun k => []) 64 (fun k => (l).length - k.1) ⟨0, by omega, by simp⟩ [] (by constructor <;> simp) ?_
  rintro ⟨k, hk1, hi⟩ B hB
  refine CW.run 9999 400 rfl ?_
  simp [Tryz.ntmps64, Tryz.results64]
  refine run_br_split (fun h => ?_) (fun h => ?_)
  · have hk : k < (l).length := by simpa using h
    have hr : (l)[k]? = some (l)[k] := List.getElem?_eq_getElem hk
    have hm : (l)[k] ∈ (l) := List.getElem_mem hk
    have ht : (l).take (k + 1) = (l).take k ++ [(l)[k]] := by rw [List.take_add_one, hr]; rfl
    have hd : (l).drop k = (l)[k] :: (l).drop (k + 1) := List.drop_eq_getElem_cons hk
    have hw : IntKind.wrap .i64 ((k : Int) + 1) = k + 1 := wrap_i64 (by omega) (by omega)
    obtain ⟨x, hx⟩ : ∃ x0, (l)[k] = x0 := ⟨_, rfl⟩
    rw [hx] at hr hm ht hd
    simp only [h]
    simp [hr, hw, Tryz.ntmps64, Tryz.results64]
    refine run_br_split (fun h1 => ?_) (fun h1 => ?_) <;> simp only [h1] <;> simp [Tryz.ntmps64, Tryz.results64] <;> (try simp only [Bool.not_eq_true', Bool.not_eq_false', decide_eq_true_eq, decide_eq_false_iff_not] at h1)
    · have e : (l.find? fun e => !decide (e = 0)) = some x := first_of hi hr h1
      first | (exact fin0 (by simp [e]) rfl) | (refine ⟨by decide +kernel, ?_⟩; exact fin0 (by simp [e]) rfl)
    · refine hB _ ⟨k + 1, by omega, by simp [ht, hi, h1]⟩ [] ?_ (by simp; omega)
      constructor <;> simp [hw, ht, h1]
  · have hkl : k = (l).length := by simp at h; omega
    subst hkl
    simp only [h]
    simp [List.take_length, List.drop_length, Tryz.ntmps64, Tryz.results64]
    rw [List.take_length] at hi
    have e : (l.find? fun e => !decide (e = 0)) = none := first_not hi
    first | (exact fin0 (by simp [e]) rfl) | (refine ⟨by decide +kernel, ?_⟩; exact fin0 (by simp [e]) rfl)
theorem small1_f (m : G.Mark) : Ct Tryz.prog 131 [st (markC m)] [] [] (bool (!rngB m.ver 2147483647)) [] := by
  refine Ct.of_body Tryz.func131 rfl mixed (by rw [Tryz.ntmps131]; simp) (CW.run 9999 400 rfl ?_)
  simp [Tryz.ntmps131, Tryz.results131]
  refine CW.callP (within_f m.ver 2147483647) Tryz.call66 rfl rfl rfl (by first | exact .inl rfl | exact .inr ⟨_, _, rfl, by simp⟩ | exact .inr ⟨_, _, rfl, by simp [*]⟩) rfl (by simp) rfl rfl (CW.runOps 9999 400 rfl ?_)
  simp [Tryz.ntmps131, Tryz.results131]
  first | (exact fin0 (by simp) rfl) | (refine ⟨by decide +kernel, ?_⟩; exact fin0 (by simp) rfl)
theorem small_f (f : G.Frame) (hf : OkFrame f) : Ct Tryz.prog 67 [st (frameC f)] [] [] (bool (smallF f)) [] := by
  refine Ct.of_body Tryz.func67 rfl mixed (by rw [Tryz.ntmps67]; simp) (CW.run 9999 400 rfl ?_)
  simp [Tryz.ntmps67, Tryz.results67]
  refine CW.callP (any_mark f.have_ (fnD 131) (fun m => !rngB m.ver 2147483647) (fun m _ => FnOk.of (small1_f m) Tryz.call131 rfl rfl) hf.have_) Tryz.call130 rfl rfl rfl (by first | exact .inl rfl | exact .inr ⟨_, _, rfl, by simp⟩ | exact .inr ⟨_, _, rfl, by simp [*]⟩) rfl (by simp) rfl rfl (CW.runOps 9999 400 rfl ?_)
  simp [Tryz.ntmps67, Tryz.results67]
  rw [any_not]
  refine run_gd_split (fun h1 => ?_) (fun h1 => ?_) <;> simp only [h1] <;> simp [Tryz.ntmps67, Tryz.results67]
  · have hl : f.adds.length ≤ 64 ∧ f.gone.length ≤ 64 ∧ f.have_.length ≤ 64 ∧ f.held.length ≤ 64 := by
      simp only [Bool.not_eq_true', decide_eq_false_iff_not] at h1
      (repeat' split at h1) <;> omega
    obtain ⟨l1, l2, l3, l4⟩ := hl
    refine run_gd_split (fun h2 => ?_) (fun h2 => ?_) <;> simp only [h2] <;> simp [Tryz.ntmps67, Tryz.results67]
    · refine CW.callP (within_f f.epoch 2147483647) Tryz.call66 rfl rfl rfl (by first | exact .inl rfl | exact .inr ⟨_, _, rfl, by simp⟩ | exact .inr ⟨_, _, rfl, by simp [*]⟩) rfl (by simp) rfl rfl (CW.runOps 9999 400 rfl ?_)
      simp [Tryz.ntmps67, Tryz.results67]
      refine run_gd_split (fun h3 => ?_) (fun h3 => ?_) <;> simp only [h3] <;> simp [Tryz.ntmps67, Tryz.results67]
      · refine CW.callP (within_f f.nonce 2147483647) Tryz.call66 rfl rfl rfl (by first | exact .inl rfl | exact .inr ⟨_, _, rfl, by simp⟩ | exact .inr ⟨_, _, rfl, by simp [*]⟩) rfl (by simp) rfl rfl (CW.runOps 9999 400 rfl ?_)
        simp [Tryz.ntmps67, Tryz.results67]
        refine run_gd_split (fun h4 => ?_) (fun h4 => ?_) <;> simp only [h4] <;> simp [Tryz.ntmps67, Tryz.results67]
        · refine CW.callP (within_f f.turn 2147483647) Tryz.call66 rfl rfl rfl (by first | exact .inl rfl | exact .inr ⟨_, _, rfl, by simp⟩ | exact .inr ⟨_, _, rfl, by simp [*]⟩) rfl (by simp) rfl rfl (CW.runOps 9999 400 rfl ?_)
          simp [Tryz.ntmps67, Tryz.results67]
          refine run_gd_split (fun h5 => ?_) (fun h5 => ?_) <;> simp only [h5] <;> simp [Tryz.ntmps67, Tryz.results67]
          · refine CW.callP (within_f f.err 15) Tryz.call66 rfl rfl rfl (by first | exact .inl rfl | exact .inr ⟨_, _, rfl, by simp⟩ | exact .inr ⟨_, _, rfl, by simp [*]⟩) rfl (by simp) rfl rfl (CW.runOps 9999 400 rfl ?_)
            simp [Tryz.ntmps67, Tryz.results67]
            first | (exact fin0 (by simp [smallF, l1, l2, l3, l4, h2, h3, h4, h5]) rfl) | (refine ⟨by decide +kernel, ?_⟩; exact fin0 (by simp [smallF, l1, l2, l3, l4, h2, h3, h4, h5]) rfl)
          · first | (exact fin0 (by simp [smallF, h5]) rfl) | (refine ⟨by decide +kernel, ?_⟩; exact fin0 (by simp [smallF, h5]) rfl)
        · first | (exact fin0 (by simp [smallF, h4]) rfl) | (refine ⟨by decide +kernel, ?_⟩; exact fin0 (by simp [smallF, h4]) rfl)
      · first | (exact fin0 (by simp [smallF, h3]) rfl) | (refine ⟨by decide +kernel, ?_⟩; exact fin0 (by simp [smallF, h3]) rfl)
    · first | (exact fin0 (by simp [smallF, h2]) rfl) | (refine ⟨by decide +kernel, ?_⟩; exact fin0 (by simp [smallF, h2]) rfl)
  · have hl : smallF f = false := by
      rw [Bool.eq_false_iff]
      intro hs
      obtain ⟨l1, l2, l3, l4, _⟩ := small_len hs
      simp only [Bool.not_eq_false', decide_eq_true_eq] at h1
      (repeat' split at h1) <;> omega
    first | (exact fin0 (by simp [hl]) rfl) | (refine ⟨by decide +kernel, ?_⟩; exact fin0 (by simp [hl]) rfl)
theorem bare_f (f : G.Frame) : Ct Tryz.prog 133 [st (frameC f)] [] [] (st (frameC (bareF f))) [] := by
  refine Ct.of_body Tryz.func133 rfl mixed (by rw [Tryz.ntmps133]; simp) (CW.run 9999 400 rfl ?_)
  simp [Tryz.ntmps133, Tryz.results133]
  refine run_br_split (fun h1 => ?_) (fun h1 => ?_) <;> simp only [h1] <;> simp [Tryz.ntmps133, Tryz.results133] <;> (try simp only [Bool.not_eq_true', Bool.not_eq_false', decide_eq_true_eq, decide_eq_false_iff_not] at h1)
  · first | (exact fin0 (by simp [bareF, h1]) rfl) | (refine ⟨by decide +kernel, ?_⟩; exact fin0 (by simp [bareF, h1]) rfl)
  refine run_br_split (fun h2 => ?_) (fun h2 => ?_) <;> simp only [h2] <;> simp [Tryz.ntmps133, Tryz.results133] <;> (try simp only [Bool.not_eq_true', Bool.not_eq_false', decide_eq_true_eq, decide_eq_false_iff_not] at h2)
  · first | (exact fin0 (by simp [bareF, h1, h2]) rfl) | (refine ⟨by decide +kernel, ?_⟩; exact fin0 (by simp [bareF, h1, h2]) rfl)
  refine run_br_split (fun h3 => ?_) (fun h3 => ?_) <;> simp only [h3] <;> simp [Tryz.ntmps133, Tryz.results133] <;> (try simp only [Bool.not_eq_true', Bool.not_eq_false', decide_eq_true_eq, decide_eq_false_iff_not] at h3)
  · first | (exact fin0 (by simp [bareF, h1, h2, h3]) rfl) | (refine ⟨by decide +kernel, ?_⟩; exact fin0 (by simp [bareF, h1, h2, h3]) rfl)
  refine run_br_split (fun h4 => ?_) (fun h4 => ?_) <;> simp only [h4] <;> simp [Tryz.ntmps133, Tryz.results133] <;> (try simp only [Bool.not_eq_true', Bool.not_eq_false', decide_eq_true_eq, decide_eq_false_iff_not] at h4)
  · first | (exact fin0 (by simp [bareF, h1, h2, h3, h4]) rfl) | (refine ⟨by decide +kernel, ?_⟩; exact fin0 (by simp [bareF, h1, h2, h3, h4]) rfl)
  · first | (exact fin0 (by simp [bareF, h1, h2, h3, h4]) rfl) | (refine ⟨by decide +kernel, ?_⟩; exact fin0 (by simp [bareF, h1, h2, h3, h4]) rfl)
theorem shaped_f (f : G.Frame) (hf : OkFrame f) : Ct Tryz.prog 68 [st (frameC f)] [] [] (bool (shapedF f)) [] := by
  refine Ct.of_body Tryz.func68 rfl mixed (by rw [Tryz.ntmps68]; simp) (CW.run 9999 400 rfl ?_)
  simp [Tryz.ntmps68, Tryz.results68]
  refine CW.callP (bare_f f) Tryz.call133 rfl rfl rfl (by first | exact .inl rfl | exact .inr ⟨_, _, rfl, by simp⟩ | exact .inr ⟨_, _, rfl, by simp [*]⟩) rfl (by simp) rfl rfl (CW.runOps 9999 400 rfl ?_)
  simp [Tryz.ntmps68, Tryz.results68]
  refine CW.callP (sameF_p (bareF f) { zFrame with type := f.type } (bare_ok hf)) Tryz.call132 rfl rfl rfl (by first | exact .inl rfl | exact .inr ⟨_, _, rfl, by simp⟩ | exact .inr ⟨_, _, rfl, by simp [*]⟩) rfl (by simp [zFrame]) rfl rfl (CW.runOps 9999 400 rfl ?_)
  simp [zFrame, Tryz.ntmps68, Tryz.results68]
  first | (exact fin0 (by simp [shapedF, zFrame]) rfl) | (refine ⟨by decide +kernel, ?_⟩; exact fin0 (by simp [shapedF, zFrame]) rfl)
theorem key_f (k_ : Key) : Ct Tryz.prog 199 [st (keyC k_)] [] [] (bool (okK k_)) [] := by
  refine Ct.of_body Tryz.func199 rfl mixed (by rw [Tryz.ntmps199]; simp) (CW.run 9999 400 rfl ?_)
  simp [Tryz.ntmps199, Tryz.results199]
  refine CW.callP (within_f k_.kind 3) Tryz.call66 rfl rfl rfl (by first | exact .inl rfl | exact .inr ⟨_, _, rfl, by simp⟩ | exact .inr ⟨_, _, rfl, by simp [*]⟩) rfl (by simp) rfl rfl (CW.runOps 9999 400 rfl ?_)
  simp [Tryz.ntmps199, Tryz.results199]
  refine run_gd_split (fun h1 => ?_) (fun h1 => ?_) <;> simp only [h1] <;> simp [Tryz.ntmps199, Tryz.results199]
  · refine CW.callP (nameSane_p k_.name) Tryz.call201 rfl rfl rfl (by first | exact .inl rfl | exact .inr ⟨_, _, rfl, by simp⟩ | exact .inr ⟨_, _, rfl, by simp [*]⟩) rfl (by simp) rfl rfl (CW.runOps 9999 400 rfl ?_)
    simp [Tryz.ntmps199, Tryz.results199]
    first | (exact fin0 (by simp [okK, h1]) rfl) | (refine ⟨by decide +kernel, ?_⟩; exact fin0 (by simp [okK, h1]) rfl)
  · first | (exact fin0 (by simp [okK, h1]) rfl) | (refine ⟨by decide +kernel, ?_⟩; exact fin0 (by simp [okK, h1]) rfl)
theorem bad_f (k_ : Key) : Ct Tryz.prog 135 [st (keyC k_)] [] [] (bool (!okK k_)) [] := by
  refine Ct.of_body Tryz.func135 rfl mixed (by rw [Tryz.ntmps135]; simp) (CW.run 9999 400 rfl ?_)
  simp [Tryz.ntmps135, Tryz.results135]
  refine CW.callP (key_f k_) Tryz.call199 rfl rfl rfl (by first | exact .inl rfl | exact .inr ⟨_, _, rfl, by simp⟩ | exact .inr ⟨_, _, rfl, by simp [*]⟩) rfl (by simp) rfl rfl (CW.runOps 9999 400 rfl ?_)
  simp [Tryz.ntmps135, Tryz.results135]
  first | (exact fin0 (by simp) rfl) | (refine ⟨by decide +kernel, ?_⟩; exact fin0 (by simp) rfl)
theorem named1_f (m : G.Mark) : Ct Tryz.prog 136 [st (markC m)] [] [] (bool (!okK m.k)) [] := by
  refine Ct.of_body Tryz.func136 rfl mixed (by rw [Tryz.ntmps136]; simp) (CW.run 9999 400 rfl ?_)
  simp [Tryz.ntmps136, Tryz.results136]
  refine CW.callP (bad_f m.k) Tryz.call135 rfl rfl rfl (by first | exact .inl rfl | exact .inr ⟨_, _, rfl, by simp⟩ | exact .inr ⟨_, _, rfl, by simp [*]⟩) rfl (by simp) rfl rfl (CW.runOps 9999 400 rfl ?_)
  simp [Tryz.ntmps136, Tryz.results136]
  first | (exact fin0 (by simp) rfl) | (refine ⟨by decide +kernel, ?_⟩; exact fin0 (by simp) rfl)
theorem named_f (f : G.Frame) (hf : OkFrame f) : Ct Tryz.prog 69 [st (frameC f)] [] [] (bool (namedF f)) [] := by
  refine Ct.of_body Tryz.func69 rfl mixed (by rw [Tryz.ntmps69]; simp) (CW.run 9999 400 rfl ?_)
  simp [Tryz.ntmps69, Tryz.results69]
  refine CW.callP (any_key f.gone (fnD 135) (fun k => !okK k) (fun k _ => FnOk.of (bad_f k) Tryz.call135 rfl rfl) hf.gone) Tryz.call134 rfl rfl rfl (by first | exact .inl rfl | exact .inr ⟨_, _, rfl, by simp⟩ | exact .inr ⟨_, _, rfl, by simp [*]⟩) rfl (by simp) rfl rfl (CW.runOps 9999 400 rfl ?_)
  simp [Tryz.ntmps69, Tryz.results69]
  rw [any_not, Bool.not_not]
  refine run_gd_split (fun h1 => ?_) (fun h1 => ?_) <;> simp only [h1] <;> simp [Tryz.ntmps69, Tryz.results69]
  · refine CW.callP (any_key f.held (fnD 135) (fun k => !okK k) (fun k _ => FnOk.of (bad_f k) Tryz.call135 rfl rfl) hf.held) Tryz.call134 rfl rfl rfl (by first | exact .inl rfl | exact .inr ⟨_, _, rfl, by simp⟩ | exact .inr ⟨_, _, rfl, by simp [*]⟩) rfl (by simp) rfl rfl (CW.runOps 9999 400 rfl ?_)
    simp [Tryz.ntmps69, Tryz.results69]
    rw [any_not, Bool.not_not]
    refine run_gd_split (fun h2 => ?_) (fun h2 => ?_) <;> simp only [h2] <;> simp [Tryz.ntmps69, Tryz.results69]
    · refine CW.callP (any_mark f.have_ (fnD 136) (fun m => !okK m.k) (fun m _ => FnOk.of (named1_f m) Tryz.call136 rfl rfl) hf.have_) Tryz.call130 rfl rfl rfl (by first | exact .inl rfl | exact .inr ⟨_, _, rfl, by simp⟩ | exact .inr ⟨_, _, rfl, by simp [*]⟩) rfl (by simp) rfl rfl (CW.runOps 9999 400 rfl ?_)
      simp [Tryz.ntmps69, Tryz.results69]
      rw [any_not, Bool.not_not]
      first | (exact fin0 (by simp [namedF, h1, h2]) rfl) | (refine ⟨by decide +kernel, ?_⟩; exact fin0 (by simp [namedF, h1, h2]) rfl)
    · first | (exact fin0 (by simp [namedF, h1, h2]) rfl) | (refine ⟨by decide +kernel, ?_⟩; exact fin0 (by simp [namedF, h1, h2]) rfl)
  · first | (exact fin0 (by simp [namedF, h1]) rfl) | (refine ⟨by decide +kernel, ?_⟩; exact fin0 (by simp [namedF, h1]) rfl)
theorem adds_f (f : G.Frame) (hf : OkFrame f) : Ct Tryz.prog 70 [st (frameC f)] [] [] (int (firstE f.adds)) [] := by
  refine Ct.of_body Tryz.func70 rfl mixed (by rw [Tryz.ntmps70]; simp) (CW.run 9999 400 rfl ?_)
  simp [Tryz.ntmps70, Tryz.results70]
  have hl := hf.adds.1
  refine LoopW.inv mixed (Plain.retC _ _ _ _ _) rfl (ι := {k : Nat // k ≤ (f.adds).length ∧ (f.adds.take k).all (fun r => decide (saneE r = 0)) = true}) (fun k => [(7, lst (f.adds.map resC)), (8, int f.adds.length), (9, int k.1)]) (fun k => []) 64 (fun k => (f.adds).length - k.1) ⟨0, by omega, by simp⟩ [] (by constructor <;> simp) ?_
  rintro ⟨k, hk1, hi⟩ B hB
  refine CW.run 9999 400 rfl ?_
  simp [Tryz.ntmps70, Tryz.results70]
  refine run_br_split (fun h => ?_) (fun h => ?_)
  · have hk : k < (f.adds).length := by simpa using h
    have hr : (f.adds)[k]? = some (f.adds)[k] := List.getElem?_eq_getElem hk
    have hm : (f.adds)[k] ∈ (f.adds) := List.getElem_mem hk
    have ht : (f.adds).take (k + 1) = (f.adds).take k ++ [(f.adds)[k]] := by rw [List.take_add_one, hr]; rfl
    have hd : (f.adds).drop k = (f.adds)[k] :: (f.adds).drop (k + 1) := List.drop_eq_getElem_cons hk
    have hw : IntKind.wrap .i64 ((k : Int) + 1) = k + 1 := wrap_i64 (by omega) (by omega)
    obtain ⟨x, hx⟩ : ∃ x0, (f.adds)[k] = x0 := ⟨_, rfl⟩
    rw [hx] at hr hm ht hd
    simp only [h]
    simp [hr, hw, Tryz.ntmps70, Tryz.results70]
    refine CW.callP (sane_p x) Tryz.call137 rfl rfl rfl (by first | exact .inl rfl | exact .inr ⟨_, _, rfl, by simp⟩ | exact .inr ⟨_, _, rfl, by simp [*]⟩) rfl (by simp) rfl rfl (CW.runOps 9999 400 rfl ?_)
    simp [Tryz.ntmps70, Tryz.results70]
    refine run_br_split (fun h1 => ?_) (fun h1 => ?_) <;> simp only [h1] <;> simp [Tryz.ntmps70, Tryz.results70] <;> (try simp only [Bool.not_eq_true', Bool.not_eq_false', decide_eq_true_eq, decide_eq_false_iff_not] at h1)
    · have e := first_at hi hr h1
      first | (exact fin0 (by simp [e]) rfl) | (refine ⟨by decide +kernel, ?_⟩; exact fin0 (by simp [e]) rfl)
    · refine hB _ ⟨k + 1, by omega, by simp [ht, hi, h1]⟩ [] ?_ (by simp; omega)
      constructor <;> simp [hw, ht, h1]
  · have hkl : k = (f.adds).length := by simp at h; omega
    subst hkl
    simp only [h]
    simp [List.take_length, List.drop_length, Tryz.ntmps70, Tryz.results70]
    rw [List.take_length] at hi
    have e := first_none hi
    first | (exact fin0 (by simp [e]) rfl) | (refine ⟨by decide +kernel, ?_⟩; exact fin0 (by simp [e]) rfl)
theorem kind1_f (f : G.Frame) (r : Res) : Ct Tryz.prog 139 [st (resC r), .d (.pro (frameC f))] [] [] (bool (!decide (r.kind = f.kind))) [] := by
  refine Ct.of_body Tryz.func139 rfl mixed (by rw [Tryz.ntmps139]; simp) (CW.run 9999 400 rfl ?_)
  simp [Tryz.ntmps139, Tryz.results139]
  first | (exact fin0 (by simp) rfl) | (refine ⟨by decide +kernel, ?_⟩; exact fin0 (by simp) rfl)
theorem kind2_f (f : G.Frame) (k_ : Key) : Ct Tryz.prog 140 [st (keyC k_), .d (.pro (frameC f))] [] [] (bool (!decide (k_.kind = f.kind))) [] := by
  refine Ct.of_body Tryz.func140 rfl mixed (by rw [Tryz.ntmps140]; simp) (CW.run 9999 400 rfl ?_)
  simp [Tryz.ntmps140, Tryz.results140]
  first | (exact fin0 (by simp) rfl) | (refine ⟨by decide +kernel, ?_⟩; exact fin0 (by simp) rfl)
theorem kind_f (f : G.Frame) (hf : OkFrame f) : Ct Tryz.prog 71 [st (frameC f)] [] [] (bool (kindF f)) [] := by
  refine Ct.of_body Tryz.func71 rfl mixed (by rw [Tryz.ntmps71]; simp) (CW.run 1 400 rfl ?_)
  simp [Tryz.ntmps71, Tryz.results71]
  refine CW.sub (tm := [(1, .d (.pro (frameC f)))]) (m := []) (nx := 65) [] [64] rfl (by constructor <;> simp) ?_
  refine CW.run 9999 400 rfl ?_
  simp [Tryz.ntmps71, Tryz.results71]
  refine CW.callP (any_res f.adds (.fn (.func 139) [] [.pro (frameC f)]) (fun r => !decide (r.kind = f.kind)) (fun r _ => FnOk.clo (by exact kind1_f f r) Tryz.call139 rfl rfl) hf.adds.len) Tryz.call138 rfl rfl rfl (by first | exact .inl rfl | exact .inr ⟨_, _, rfl, by simp⟩ | exact .inr ⟨_, _, rfl, by simp [*]⟩) rfl (by simp) rfl rfl (CW.runOps 9999 400 rfl ?_)
  simp [Tryz.ntmps71, Tryz.results71]
  rw [any_not, Bool.not_not]
  refine run_gd_split (fun h1 => ?_) (fun h1 => ?_) <;> simp only [h1] <;> simp [Tryz.ntmps71, Tryz.results71]
  · refine CW.callP (any_key f.gone (.fn (.func 140) [] [.pro (frameC f)]) (fun k => !decide (k.kind = f.kind)) (fun k _ => FnOk.clo (by exact kind2_f f k) Tryz.call140 rfl rfl) hf.gone) Tryz.call134 rfl rfl rfl (by first | exact .inl rfl | exact .inr ⟨_, _, rfl, by simp⟩ | exact .inr ⟨_, _, rfl, by simp [*]⟩) rfl (by simp) rfl rfl (CW.runOps 9999 400 rfl ?_)
    simp [Tryz.ntmps71, Tryz.results71]
    rw [any_not, Bool.not_not]
    have e : kindF f = f.gone.all fun k => decide (k.kind = f.kind) := by rw [kindF, h1, Bool.true_and]
    rw [← e]
    first | (exact fin0 (by simp) rfl) | (refine ⟨by decide +kernel, ?_⟩; exact fin0 (by simp) rfl)
  · skip
    have e : kindF f = false := by rw [kindF, h1, Bool.false_and]
    first | (exact fin0 (by simp [e]) rfl) | (refine ⟨by decide +kernel, ?_⟩; exact fin0 (by simp [e]) rfl)
theorem frame_f (f : G.Frame) (hf : OkFrame f) : Ct Tryz.prog 22 [st (frameC f)] [] [] (int (frameE f)) [] := by
  refine Ct.of_body Tryz.func22 rfl mixed (by rw [Tryz.ntmps22]; simp) (CW.run 9999 400 rfl ?_)
  simp [Tryz.ntmps22, Tryz.results22]
  refine CW.callP (within_f f.type 3) Tryz.call66 rfl rfl rfl (by first | exact .inl rfl | exact .inr ⟨_, _, rfl, by simp⟩ | exact .inr ⟨_, _, rfl, by simp [*]⟩) rfl (by simp) rfl rfl (CW.runOps 9999 400 rfl ?_)
  simp [Tryz.ntmps22, Tryz.results22]
  refine run_gd_split (fun h1 => ?_) (fun h1 => ?_) <;> simp only [h1] <;> simp [Tryz.ntmps22, Tryz.results22]
  · refine CW.callP (within_f f.kind 3) Tryz.call66 rfl rfl rfl (by first | exact .inl rfl | exact .inr ⟨_, _, rfl, by simp⟩ | exact .inr ⟨_, _, rfl, by simp [*]⟩) rfl (by simp) rfl rfl (CW.runOps 9999 400 rfl ?_)
    simp [Tryz.ntmps22, Tryz.results22]
    refine CW.callP (unless_f (rngB f.kind 3) 4) Tryz.call65 rfl rfl rfl (by first | exact .inl rfl | exact .inr ⟨_, _, rfl, by simp⟩ | exact .inr ⟨_, _, rfl, by simp [*]⟩) rfl (by simp) rfl rfl (CW.runOps 9999 400 rfl ?_)
    simp [Tryz.ntmps22, Tryz.results22]
    refine CW.callP (small_f f hf) Tryz.call67 rfl rfl rfl (by first | exact .inl rfl | exact .inr ⟨_, _, rfl, by simp⟩ | exact .inr ⟨_, _, rfl, by simp [*]⟩) rfl (by simp) rfl rfl (CW.runOps 9999 400 rfl ?_)
    simp [Tryz.ntmps22, Tryz.results22]
    refine CW.callP (unless_f (smallF f) 3) Tryz.call65 rfl rfl rfl (by first | exact .inl rfl | exact .inr ⟨_, _, rfl, by simp⟩ | exact .inr ⟨_, _, rfl, by simp [*]⟩) rfl (by simp) rfl rfl (CW.runOps 9999 400 rfl ?_)
    simp [Tryz.ntmps22, Tryz.results22]
    refine CW.callP (shaped_f f hf) Tryz.call68 rfl rfl rfl (by first | exact .inl rfl | exact .inr ⟨_, _, rfl, by simp⟩ | exact .inr ⟨_, _, rfl, by simp [*]⟩) rfl (by simp) rfl rfl (CW.runOps 9999 400 rfl ?_)
    simp [Tryz.ntmps22, Tryz.results22]
    refine CW.callP (unless_f (shapedF f) 2) Tryz.call65 rfl rfl rfl (by first | exact .inl rfl | exact .inr ⟨_, _, rfl, by simp⟩ | exact .inr ⟨_, _, rfl, by simp [*]⟩) rfl (by simp) rfl rfl (CW.runOps 9999 400 rfl ?_)
    simp [Tryz.ntmps22, Tryz.results22]
    refine CW.callP (named_f f hf) Tryz.call69 rfl rfl rfl (by first | exact .inl rfl | exact .inr ⟨_, _, rfl, by simp⟩ | exact .inr ⟨_, _, rfl, by simp [*]⟩) rfl (by simp) rfl rfl (CW.runOps 9999 400 rfl ?_)
    simp [Tryz.ntmps22, Tryz.results22]
    refine CW.callP (unless_f (namedF f) 5) Tryz.call65 rfl rfl rfl (by first | exact .inl rfl | exact .inr ⟨_, _, rfl, by simp⟩ | exact .inr ⟨_, _, rfl, by simp [*]⟩) rfl (by simp) rfl rfl (CW.runOps 9999 400 rfl ?_)
    simp [Tryz.ntmps22, Tryz.results22]
    refine CW.callP (adds_f f hf) Tryz.call70 rfl rfl rfl (by first | exact .inl rfl | exact .inr ⟨_, _, rfl, by simp⟩ | exact .inr ⟨_, _, rfl, by simp [*]⟩) rfl (by simp) rfl rfl (CW.runOps 9999 400 rfl ?_)
    simp [Tryz.ntmps22, Tryz.results22]
    refine CW.callP (kind_f f hf) Tryz.call71 rfl rfl rfl (by first | exact .inl rfl | exact .inr ⟨_, _, rfl, by simp⟩ | exact .inr ⟨_, _, rfl, by simp [*]⟩) rfl (by simp) rfl rfl (CW.runOps 9999 400 rfl ?_)
    simp [Tryz.ntmps22, Tryz.results22]
    refine CW.callP (unless_f (kindF f) 2) Tryz.call65 rfl rfl rfl (by first | exact .inl rfl | exact .inr ⟨_, _, rfl, by simp⟩ | exact .inr ⟨_, _, rfl, by simp [*]⟩) rfl (by simp) rfl rfl (CW.runOps 9999 400 rfl ?_)
    simp [Tryz.ntmps22, Tryz.results22]
    refine CW.callG [1664] [] (first_f [if rngB f.kind 3 = true then 0 else 4, if smallF f = true then 0 else 3, if shapedF f = true then 0 else 2, if namedF f = true then 0 else 5, firstE f.adds, if kindF f = true then 0 else 2] (by simp)) Tryz.call64 rfl rfl rfl (by first | exact .inl rfl | exact .inr ⟨_, _, rfl, by simp⟩ | exact .inr ⟨_, _, rfl, by simp [*]⟩) rfl (by simp [giveT]) (by constructor <;> simp [nmOk]) (by simp [gvB]) (by simp) (CW.runOps 9999 400 rfl ?_)
    simp [Tryz.ntmps22, Tryz.results22]
    have e := first_frame f
    rw [h1, Bool.true_and] at e
    rw [e]
    first | (exact fin0 (by simp) rfl) | (refine ⟨by decide +kernel, ?_⟩; exact fin0 (by simp) rfl)
  · skip
    refine CW.callP (unless_f false 4) Tryz.call65 rfl rfl rfl (by first | exact .inl rfl | exact .inr ⟨_, _, rfl, by simp⟩ | exact .inr ⟨_, _, rfl, by simp [*]⟩) rfl (by simp) rfl rfl (CW.runOps 9999 400 rfl ?_)
    simp [Tryz.ntmps22, Tryz.results22]
    refine CW.callP (small_f f hf) Tryz.call67 rfl rfl rfl (by first | exact .inl rfl | exact .inr ⟨_, _, rfl, by simp⟩ | exact .inr ⟨_, _, rfl, by simp [*]⟩) rfl (by simp) rfl rfl (CW.runOps 9999 400 rfl ?_)
    simp [Tryz.ntmps22, Tryz.results22]
    refine CW.callP (unless_f (smallF f) 3) Tryz.call65 rfl rfl rfl (by first | exact .inl rfl | exact .inr ⟨_, _, rfl, by simp⟩ | exact .inr ⟨_, _, rfl, by simp [*]⟩) rfl (by simp) rfl rfl (CW.runOps 9999 400 rfl ?_)
    simp [Tryz.ntmps22, Tryz.results22]
    refine CW.callP (shaped_f f hf) Tryz.call68 rfl rfl rfl (by first | exact .inl rfl | exact .inr ⟨_, _, rfl, by simp⟩ | exact .inr ⟨_, _, rfl, by simp [*]⟩) rfl (by simp) rfl rfl (CW.runOps 9999 400 rfl ?_)
    simp [Tryz.ntmps22, Tryz.results22]
    refine CW.callP (unless_f (shapedF f) 2) Tryz.call65 rfl rfl rfl (by first | exact .inl rfl | exact .inr ⟨_, _, rfl, by simp⟩ | exact .inr ⟨_, _, rfl, by simp [*]⟩) rfl (by simp) rfl rfl (CW.runOps 9999 400 rfl ?_)
    simp [Tryz.ntmps22, Tryz.results22]
    refine CW.callP (named_f f hf) Tryz.call69 rfl rfl rfl (by first | exact .inl rfl | exact .inr ⟨_, _, rfl, by simp⟩ | exact .inr ⟨_, _, rfl, by simp [*]⟩) rfl (by simp) rfl rfl (CW.runOps 9999 400 rfl ?_)
    simp [Tryz.ntmps22, Tryz.results22]
    refine CW.callP (unless_f (namedF f) 5) Tryz.call65 rfl rfl rfl (by first | exact .inl rfl | exact .inr ⟨_, _, rfl, by simp⟩ | exact .inr ⟨_, _, rfl, by simp [*]⟩) rfl (by simp) rfl rfl (CW.runOps 9999 400 rfl ?_)
    simp [Tryz.ntmps22, Tryz.results22]
    refine CW.callP (adds_f f hf) Tryz.call70 rfl rfl rfl (by first | exact .inl rfl | exact .inr ⟨_, _, rfl, by simp⟩ | exact .inr ⟨_, _, rfl, by simp [*]⟩) rfl (by simp) rfl rfl (CW.runOps 9999 400 rfl ?_)
    simp [Tryz.ntmps22, Tryz.results22]
    refine CW.callP (kind_f f hf) Tryz.call71 rfl rfl rfl (by first | exact .inl rfl | exact .inr ⟨_, _, rfl, by simp⟩ | exact .inr ⟨_, _, rfl, by simp [*]⟩) rfl (by simp) rfl rfl (CW.runOps 9999 400 rfl ?_)
    simp [Tryz.ntmps22, Tryz.results22]
    refine CW.callP (unless_f (kindF f) 2) Tryz.call65 rfl rfl rfl (by first | exact .inl rfl | exact .inr ⟨_, _, rfl, by simp⟩ | exact .inr ⟨_, _, rfl, by simp [*]⟩) rfl (by simp) rfl rfl (CW.runOps 9999 400 rfl ?_)
    simp [Tryz.ntmps22, Tryz.results22]
    refine CW.callG [1664] [] (first_f [4, if smallF f = true then 0 else 3, if shapedF f = true then 0 else 2, if namedF f = true then 0 else 5, firstE f.adds, if kindF f = true then 0 else 2] (by simp)) Tryz.call64 rfl rfl rfl (by first | exact .inl rfl | exact .inr ⟨_, _, rfl, by simp⟩ | exact .inr ⟨_, _, rfl, by simp [*]⟩) rfl (by simp [giveT]) (by constructor <;> simp [nmOk]) (by simp [gvB]) (by simp) (CW.runOps 9999 400 rfl ?_)
    simp [Tryz.ntmps22, Tryz.results22]
    have e : frameE f = 4 := by simp [frameE, h1]
    first | (exact fin0 (by simp [e]) rfl) | (refine ⟨by decide +kernel, ?_⟩; exact fin0 (by simp [e]) rfl)
end Go.Proofs.YtbmnaehodmgibaaGreatDoor
end
section
namespace Go.Proofs.YtbmnaehodmgibaaGreatDoor
open Go.AI Go.G
set_option maxRecDepth 20000
theorem newSess_p (e m : Int) : Ct Tryz.prog 20 [int e, int m] [] [] (st (sessC (newSess e m))) [] := by
  refine Ct.of_body Tryz.func20 rfl mixed (by rw [Tryz.ntmps20]; simp) (CW.run 9999 400 rfl ?_)
  simp [Tryz.ntmps20, Tryz.results20]
  refine CW.callP (start_p m) Tryz.call60 rfl rfl rfl (by first | exact .inl rfl | exact .inr ⟨_, _, rfl, by simp⟩ | exact .inr ⟨_, _, rfl, by simp [*]⟩) rfl (by simp) rfl rfl (CW.runOps 9999 400 rfl ?_)
  simp [Tryz.ntmps20, Tryz.results20]
  have h := epoch_min e
  first | (exact fin0 (by simp [newSess, h, zView, zFrame]) rfl) | (refine ⟨by decide +kernel, ?_⟩; exact fin0 (by simp [newSess, h, zView, zFrame]) rfl)
theorem sound_s (f : G.Frame) (hf : OkFrame f) : Ct Tryz.prog 119 [st (frameC f)] [] [] (bool (decide (frameE f = 0))) [] := by
  refine Ct.of_body Tryz.func119 rfl mixed (by rw [Tryz.ntmps119]; simp) (CW.run 9999 400 rfl ?_)
  simp [Tryz.ntmps119, Tryz.results119]
  refine CW.callP (frame_f f hf) Tryz.call22 rfl rfl rfl (by first | exact .inl rfl | exact .inr ⟨_, _, rfl, by simp⟩ | exact .inr ⟨_, _, rfl, by simp [*]⟩) rfl (by simp) rfl rfl (CW.runOps 9999 400 rfl ?_)
  simp [Tryz.ntmps119, Tryz.results119]
  first | (exact fin0 (by simp) rfl) | (refine ⟨by decide +kernel, ?_⟩; exact fin0 (by simp) rfl)
theorem seen_s (v : View) (hv : v.held.length ≤ 9223372036854775807) (hl : v.have_.length ≤ 1000000) : Ct Tryz.prog 52 [st (viewC v)] [] [] (bool (seenB v)) [] := by
  refine Ct.of_body Tryz.func52 rfl mixed (by rw [Tryz.ntmps52]; simp) (CW.run 9999 400 rfl ?_)
  simp [Tryz.ntmps52, Tryz.results52]
  refine CW.callP (marks_p v.have_ hl) Tryz.call101 rfl rfl rfl (by first | exact .inl rfl | exact .inr ⟨_, _, rfl, by simp⟩ | exact .inr ⟨_, _, rfl, by simp [*]⟩) rfl (by simp) rfl rfl (CW.runOps 9999 400 rfl ?_)
  simp [Tryz.ntmps52, Tryz.results52]
  refine CW.callP (sound_s (helloF v) (hello_okF v (by omega))) Tryz.call119 rfl rfl rfl (by first | exact .inl rfl | exact .inr ⟨_, _, rfl, by simp⟩ | exact .inr ⟨_, _, rfl, by simp [*]⟩) rfl (by simp [helloF]) rfl rfl (CW.runOps 9999 400 rfl ?_)
  simp [helloF, Tryz.ntmps52, Tryz.results52]
  refine run_gd_split (fun h1 => ?_) (fun h1 => ?_) <;> simp only [h1] <;> simp [Tryz.ntmps52, Tryz.results52]
  · refine CW.callP (sound_s (drainF v) (drain_okG hv)) Tryz.call119 rfl rfl rfl (by first | exact .inl rfl | exact .inr ⟨_, _, rfl, by simp⟩ | exact .inr ⟨_, _, rfl, by simp [*]⟩) rfl (by simp [drainF]) rfl rfl (CW.runOps 9999 400 rfl ?_)
    simp [drainF, Tryz.ntmps52, Tryz.results52]
    first | (exact fin0 (by simp [seenB, h1, helloF, drainF]) rfl) | (refine ⟨by decide +kernel, ?_⟩; exact fin0 (by simp [seenB, h1, helloF, drainF]) rfl)
  · first | (exact fin0 (by simp [seenB, h1, helloF]) rfl) | (refine ⟨by decide +kernel, ?_⟩; exact fin0 (by simp [seenB, h1, helloF]) rfl)
theorem waits_s (s : Sess) (hs : OkFrame s.v.push) : Ct Tryz.prog 53 [st (sessC s)] [] [] (bool (waitsB s)) [] := by
  refine Ct.of_body Tryz.func53 rfl mixed (by rw [Tryz.ntmps53]; simp) (CW.run 9999 400 rfl ?_)
  simp [Tryz.ntmps53, Tryz.results53]
  refine run_gd_split (fun h1 => ?_) (fun h1 => ?_) <;> simp only [h1] <;> simp [Tryz.ntmps53, Tryz.results53]
  · have h1' : s.greeted = false := by simpa using h1
    first | (exact fin0 (by simp [waitsB, h1']) rfl) | (refine ⟨by decide +kernel, ?_⟩; exact fin0 (by simp [waitsB, h1']) rfl)
  have h1' : s.greeted = true := by simpa using h1
  refine CW.callP (sound_s s.v.push hs) Tryz.call119 rfl rfl rfl (by first | exact .inl rfl | exact .inr ⟨_, _, rfl, by simp⟩ | exact .inr ⟨_, _, rfl, by simp [*]⟩) rfl (by simp) rfl rfl (CW.runOps 9999 400 rfl ?_)
  simp [Tryz.ntmps53, Tryz.results53]
  refine run_gd_split (fun h2 => ?_) (fun h2 => ?_) <;> simp only [h2] <;> simp [Tryz.ntmps53, Tryz.results53]
  · have h2' : ¬ frameE s.v.push = 0 := by simpa using h2
    first | (exact fin0 (by simp [waitsB, h2']) rfl) | (refine ⟨by decide +kernel, ?_⟩; exact fin0 (by simp [waitsB, h2']) rfl)
  have h2' : frameE s.v.push = 0 := by simpa using h2
  refine run_gd_split (fun h3 => ?_) (fun h3 => ?_) <;> simp only [h3] <;> simp [Tryz.ntmps53, Tryz.results53]
  · have h3' : ¬ s.v.push.type = 1 := by simpa using h3
    first | (exact fin0 (by simp [waitsB, h3']) rfl) | (refine ⟨by decide +kernel, ?_⟩; exact fin0 (by simp [waitsB, h3']) rfl)
  have h3' : s.v.push.type = 1 := by simpa using h3
  refine run_br_split (fun h4 => ?_) (fun h4 => ?_) <;> simp only [h4] <;> simp [Tryz.ntmps53, Tryz.results53]
  · have h4' : ¬ s.v.push.epoch = s.epoch := by simpa using h4
    first | (exact fin0 (by simp [waitsB, h4']) rfl) | (refine ⟨by decide +kernel, ?_⟩; exact fin0 (by simp [waitsB, h4']) rfl)
  have h4' : s.v.push.epoch = s.epoch := by simpa using h4
  rcases push_kind h2' with hk | hk | hk | hk
  · simp [hk, Tryz.ntmps53, Tryz.results53]
    refine run_gd_split (fun h5 => ?_) (fun h5 => ?_) <;> simp only [h5] <;> simp [hk, Tryz.ntmps53, Tryz.results53]
    · first | (exact fin0 (by simp [waitsB, h1', h2', h3', h4', hk, h5, Nonce.Ou.open', Nonce.Ou.last]) rfl) | (refine ⟨by decide +kernel, ?_⟩; exact fin0 (by simp [waitsB, h1', h2', h3', h4', hk, h5, Nonce.Ou.open', Nonce.Ou.last]) rfl)
    · first | (exact fin0 (by simp [waitsB, h1', h2', h3', h4', hk, h5, Nonce.Ou.open', Nonce.Ou.last]) rfl) | (refine ⟨by decide +kernel, ?_⟩; exact fin0 (by simp [waitsB, h1', h2', h3', h4', hk, h5, Nonce.Ou.open', Nonce.Ou.last]) rfl)
  · simp [hk, Tryz.ntmps53, Tryz.results53]
    refine run_gd_split (fun h5 => ?_) (fun h5 => ?_) <;> simp only [h5] <;> simp [hk, Tryz.ntmps53, Tryz.results53]
    · first | (exact fin0 (by simp [waitsB, h1', h2', h3', h4', hk, h5, Nonce.Ou.open', Nonce.Ou.last]) rfl) | (refine ⟨by decide +kernel, ?_⟩; exact fin0 (by simp [waitsB, h1', h2', h3', h4', hk, h5, Nonce.Ou.open', Nonce.Ou.last]) rfl)
    · first | (exact fin0 (by simp [waitsB, h1', h2', h3', h4', hk, h5, Nonce.Ou.open', Nonce.Ou.last]) rfl) | (refine ⟨by decide +kernel, ?_⟩; exact fin0 (by simp [waitsB, h1', h2', h3', h4', hk, h5, Nonce.Ou.open', Nonce.Ou.last]) rfl)
  · simp [hk, Tryz.ntmps53, Tryz.results53]
    refine run_gd_split (fun h5 => ?_) (fun h5 => ?_) <;> simp only [h5] <;> simp [hk, Tryz.ntmps53, Tryz.results53]
    · first | (exact fin0 (by simp [waitsB, h1', h2', h3', h4', hk, h5, Nonce.Ou.open', Nonce.Ou.last]) rfl) | (refine ⟨by decide +kernel, ?_⟩; exact fin0 (by simp [waitsB, h1', h2', h3', h4', hk, h5, Nonce.Ou.open', Nonce.Ou.last]) rfl)
    · first | (exact fin0 (by simp [waitsB, h1', h2', h3', h4', hk, h5, Nonce.Ou.open', Nonce.Ou.last]) rfl) | (refine ⟨by decide +kernel, ?_⟩; exact fin0 (by simp [waitsB, h1', h2', h3', h4', hk, h5, Nonce.Ou.open', Nonce.Ou.last]) rfl)
  · simp [hk, Tryz.ntmps53, Tryz.results53]
    refine run_gd_split (fun h5 => ?_) (fun h5 => ?_) <;> simp only [h5] <;> simp [hk, Tryz.ntmps53, Tryz.results53]
    · first | (exact fin0 (by simp [waitsB, h1', h2', h3', h4', hk, h5, Nonce.Ou.open', Nonce.Ou.last]) rfl) | (refine ⟨by decide +kernel, ?_⟩; exact fin0 (by simp [waitsB, h1', h2', h3', h4', hk, h5, Nonce.Ou.open', Nonce.Ou.last]) rfl)
    · first | (exact fin0 (by simp [waitsB, h1', h2', h3', h4', hk, h5, Nonce.Ou.open', Nonce.Ou.last]) rfl) | (refine ⟨by decide +kernel, ?_⟩; exact fin0 (by simp [waitsB, h1', h2', h3', h4', hk, h5, Nonce.Ou.open', Nonce.Ou.last]) rfl)
theorem saneW_p (s : Sess) (hd : s.v.held.length ≤ 9223372036854775807) (hs : OkFrame s.v.push) (hl : s.v.have_.length ≤ 1000000) : Ct Tryz.prog 12 [st (sessC s)] [] [] (bool (saneS s)) [] := by
  refine Ct.of_body Tryz.func12 rfl mixed (by rw [Tryz.ntmps12]; simp) (CW.run 9999 400 rfl ?_)
  simp [Tryz.ntmps12, Tryz.results12]
  refine run_gd_split (fun h1 => ?_) (fun h1 => ?_) <;> simp only [h1] <;> simp [Tryz.ntmps12, Tryz.results12]
  · skip
    refine run_gd_split (fun h2 => ?_) (fun h2 => ?_) <;> simp only [h2] <;> simp [Tryz.ntmps12, Tryz.results12]
    · skip
      refine run_gd_split (fun h3 => ?_) (fun h3 => ?_) <;> simp only [h3] <;> simp [Tryz.ntmps12, Tryz.results12]
      · skip
        refine run_gd_split (fun h4 => ?_) (fun h4 => ?_) <;> simp only [h4] <;> simp [Tryz.ntmps12, Tryz.results12]
        · skip
          refine run_gd_split (fun h5 => ?_) (fun h5 => ?_) <;> simp only [h5] <;> simp [Tryz.ntmps12, Tryz.results12]
          · skip
            refine CW.callP (good_p s.out) Tryz.call51 rfl rfl rfl (by first | exact .inl rfl | exact .inr ⟨_, _, rfl, by simp⟩ | exact .inr ⟨_, _, rfl, by simp [*]⟩) rfl (by simp) rfl rfl (CW.runOps 9999 400 rfl ?_)
            simp [Tryz.ntmps12, Tryz.results12]
            refine run_gd_split (fun h6 => ?_) (fun h6 => ?_) <;> simp only [h6] <;> simp [Tryz.ntmps12, Tryz.results12]
            · skip
              refine CW.callP (seen_s s.v hd hl) Tryz.call52 rfl rfl rfl (by first | exact .inl rfl | exact .inr ⟨_, _, rfl, by simp⟩ | exact .inr ⟨_, _, rfl, by simp [*]⟩) rfl (by simp) rfl rfl (CW.runOps 9999 400 rfl ?_)
              simp [Tryz.ntmps12, Tryz.results12]
              refine run_gd_split (fun h7 => ?_) (fun h7 => ?_) <;> simp only [h7] <;> simp [Tryz.ntmps12, Tryz.results12]
              · skip
                refine run_gd_split (fun h8 => ?_) (fun h8 => ?_) <;> simp only [h8] <;> simp [Tryz.ntmps12, Tryz.results12]
                · first | (exact fin0 (by simp [saneS, plainB, rngB, h1, h2, h3, h4, h5, h6, h7, h8]) rfl) | (refine ⟨by decide +kernel, ?_⟩; exact fin0 (by simp [saneS, plainB, rngB, h1, h2, h3, h4, h5, h6, h7, h8]) rfl)
                · refine CW.callP (waits_s s hs) Tryz.call53 rfl rfl rfl (by first | exact .inl rfl | exact .inr ⟨_, _, rfl, by simp⟩ | exact .inr ⟨_, _, rfl, by simp [*]⟩) rfl (by simp) rfl rfl (CW.runOps 9999 400 rfl ?_)
                  simp [Tryz.ntmps12, Tryz.results12]
                  first | (exact fin0 (by simp [saneS, plainB, rngB, h1, h2, h3, h4, h5, h6, h7, h8]) rfl) | (refine ⟨by decide +kernel, ?_⟩; exact fin0 (by simp [saneS, plainB, rngB, h1, h2, h3, h4, h5, h6, h7, h8]) rfl)
              · first | (exact fin0 (by simp [saneS, h7]) rfl) | (refine ⟨by decide +kernel, ?_⟩; exact fin0 (by simp [saneS, h7]) rfl)
            · first | (exact fin0 (by simp [saneS, h6]) rfl) | (refine ⟨by decide +kernel, ?_⟩; exact fin0 (by simp [saneS, h6]) rfl)
          · first | (exact fin0 (by simp [saneS, plainB, rngB, h5]) rfl) | (refine ⟨by decide +kernel, ?_⟩; exact fin0 (by simp [saneS, plainB, rngB, h5]) rfl)
        · first | (exact fin0 (by simp [saneS, plainB, rngB, h4]) rfl) | (refine ⟨by decide +kernel, ?_⟩; exact fin0 (by simp [saneS, plainB, rngB, h4]) rfl)
      · first | (exact fin0 (by simp [saneS, plainB, rngB, h3]) rfl) | (refine ⟨by decide +kernel, ?_⟩; exact fin0 (by simp [saneS, plainB, rngB, h3]) rfl)
    · first | (exact fin0 (by simp [saneS, plainB, rngB, h2]) rfl) | (refine ⟨by decide +kernel, ?_⟩; exact fin0 (by simp [saneS, plainB, rngB, h2]) rfl)
  · first | (exact fin0 (by simp [saneS, plainB, rngB, h1]) rfl) | (refine ⟨by decide +kernel, ?_⟩; exact fin0 (by simp [saneS, plainB, rngB, h1]) rfl)
theorem saneS_p (s : Sess) (hs : OkSess s) (hl : s.v.have_.length ≤ 1000000) : Ct Tryz.prog 12 [st (sessC s)] [] [] (bool (saneS s)) [] := saneW_p s hs.v.held hs.v.push hl
theorem soundW_p (s : Sess) (hd : s.v.held.length ≤ 9223372036854775807) (hs : OkFrame s.v.push) (hl : s.v.have_.length ≤ 1000000) : Ct Tryz.prog 55 [st (sessC s)] [] [] (st (sessC (soundS s))) [] := by
  refine Ct.of_body Tryz.func55 rfl mixed (by rw [Tryz.ntmps55]; simp) (CW.run 9999 400 rfl ?_)
  simp [Tryz.ntmps55, Tryz.results55]
  refine CW.callP (saneW_p s hd hs hl) Tryz.call12 rfl rfl rfl (by first | exact .inl rfl | exact .inr ⟨_, _, rfl, by simp⟩ | exact .inr ⟨_, _, rfl, by simp [*]⟩) rfl (by simp) rfl rfl (CW.runOps 9999 400 rfl ?_)
  simp [Tryz.ntmps55, Tryz.results55]
  refine run_br_split (fun h1 => ?_) (fun h1 => ?_) <;> simp only [h1] <;> simp [Tryz.ntmps55, Tryz.results55]
  · have h1' : saneS s = false := by simpa using h1
    refine CW.callP (newSess_p s.epoch s.out.m) Tryz.call20 rfl rfl rfl (by first | exact .inl rfl | exact .inr ⟨_, _, rfl, by simp⟩ | exact .inr ⟨_, _, rfl, by simp [*]⟩) rfl (by simp) rfl rfl (CW.runOps 9999 400 rfl ?_)
    simp [Tryz.ntmps55, Tryz.results55]
    first | (exact fin0 (by simp [soundS, h1']) rfl) | (refine ⟨by decide +kernel, ?_⟩; exact fin0 (by simp [soundS, h1']) rfl)
  · have h1' : saneS s = true := by simpa using h1
    first | (exact fin0 (by simp [soundS, h1']) rfl) | (refine ⟨by decide +kernel, ?_⟩; exact fin0 (by simp [soundS, h1']) rfl)
theorem soundS_p (s : Sess) (hs : OkSess s) (hl : s.v.have_.length ≤ 1000000) : Ct Tryz.prog 55 [st (sessC s)] [] [] (st (sessC (soundS s))) [] := soundW_p s hs.v.held hs.v.push hl
theorem hello_s (s : Sess) (p : Store) (f : G.Frame) (hp : OkStore p) (hl : f.have_.length ≤ 1000) : Ct Tryz.prog 120 [st (sessC s), st (storeC p), st (frameC f)] [] [] (.tup [st (sessC (helloH s p f).1), int (helloH s p f).2]) [] := by
  refine Ct.of_body Tryz.func120 rfl mixed (by rw [Tryz.ntmps120]; simp) (CW.run 9999 400 rfl ?_)
  simp [Tryz.ntmps120, Tryz.results120]
  refine run_br_split (fun h1 => ?_) (fun h1 => ?_) <;> simp only [h1] <;> simp [Tryz.ntmps120, Tryz.results120]
  · first | (exact fin0 (by simp [helloH, h1]) rfl) | (refine ⟨by decide +kernel, ?_⟩; exact fin0 (by simp [helloH, h1]) rfl)
  refine CW.callP (known_p p f.have_ hp hl) Tryz.call187 rfl rfl rfl (by first | exact .inl rfl | exact .inr ⟨_, _, rfl, by simp⟩ | exact .inr ⟨_, _, rfl, by simp [*]⟩) rfl (by simp) rfl rfl (CW.runOps 9999 400 rfl ?_)
  simp [Tryz.ntmps120, Tryz.results120]
  have hk := known_len p f.have_
  refine run_br_split (fun h2 => ?_) (fun h2 => ?_) <;> simp only [h2] <;> simp [Tryz.ntmps120, Tryz.results120] <;> (try simp only [Bool.not_eq_true', Bool.not_eq_false', decide_eq_true_eq, decide_eq_false_iff_not] at h2)
  · refine CW.callC [] (keys_p (knownV p f.have_) (by omega)) Tryz.call165 rfl rfl rfl (by first | exact .inl rfl | exact .inr ⟨_, _, rfl, by simp⟩ | exact .inr ⟨_, _, rfl, by simp [*]⟩) rfl (by simp) (by constructor <;> simp [nmOk]) (by simp) (CW.runOps 9999 400 rfl ?_)
    simp [Tryz.ntmps120, Tryz.results120]
    first | (exact fin0 (by simp [helloH, helloV, h1, h2]) rfl) | (refine ⟨by decide +kernel, ?_⟩; exact fin0 (by simp [helloH, helloV, h1, h2]) rfl)
  · first | (exact fin0 (by simp [helloH, helloV, h1, h2]) rfl) | (refine ⟨by decide +kernel, ?_⟩; exact fin0 (by simp [helloH, helloV, h1, h2]) rfl)
theorem push_s (s : Sess) (p : Store) (f : G.Frame) : Ct Tryz.prog 121 [st (sessC s), st (storeC p), st (frameC f)] [] [] (.tup [st (sessC s), int 2]) [] := by
  refine Ct.of_body Tryz.func121 rfl mixed (by rw [Tryz.ntmps121]; simp) (CW.run 9999 400 rfl ?_)
  simp [Tryz.ntmps121, Tryz.results121]
  first | (exact fin0 (by simp) rfl) | (refine ⟨by decide +kernel, ?_⟩; exact fin0 (by simp) rfl)
theorem drain_s (s : Sess) (p : Store) (f : G.Frame) : Ct Tryz.prog 123 [st (sessC s), st (storeC p), st (frameC f)] [] [] (.tup [st (sessC (drainH s f).1), int (drainH s f).2]) [] := by
  refine Ct.of_body Tryz.func123 rfl mixed (by rw [Tryz.ntmps123]; simp) (CW.run 9999 400 rfl ?_)
  simp [Tryz.ntmps123, Tryz.results123]
  refine CW.callP (drain_p s.v f.turn f.held) Tryz.call190 rfl rfl rfl (by first | exact .inl rfl | exact .inr ⟨_, _, rfl, by simp⟩ | exact .inr ⟨_, _, rfl, by simp [*]⟩) rfl (by simp) rfl rfl (CW.runOps 9999 400 rfl ?_)
  simp [Tryz.ntmps123, Tryz.results123]
  first | (exact fin0 (by simp [drainH]) rfl) | (refine ⟨by decide +kernel, ?_⟩; exact fin0 (by simp [drainH]) rfl)
theorem ack_s (s : Sess) (p : Store) (f : G.Frame) (hl : s.v.open_ = true → s.v.have_.length + s.v.push.adds.length ≤ 1000000 ∧ s.v.push.gone.length ≤ 9223372036854775807) (hp : p.hist.length ≤ 1000000) : Ct Tryz.prog 122 [st (sessC s), st (storeC p), st (frameC f)] [] [] (.tup [st (sessC (ackH s p f).1), int (ackH s p f).2]) [] := by
  refine Ct.of_body Tryz.func122 rfl mixed (by rw [Tryz.ntmps122]; simp) (CW.run 9999 400 rfl ?_)
  simp [Tryz.ntmps122, Tryz.results122]
  refine CW.callP (ndone_p s.out f.kind f.nonce) Tryz.call188 rfl rfl rfl (by first | exact .inl rfl | exact .inr ⟨_, _, rfl, by simp⟩ | exact .inr ⟨_, _, rfl, by simp [*]⟩) rfl (by simp) rfl rfl (CW.runOps 9999 400 rfl ?_)
  simp [Tryz.ntmps122, Tryz.results122]
  refine run_br_split (fun h1 => ?_) (fun h1 => ?_) <;> simp only [h1] <;> simp [Tryz.ntmps122, Tryz.results122] <;> (try simp only [Bool.not_eq_true', Bool.not_eq_false', decide_eq_true_eq, decide_eq_false_iff_not] at h1)
  · first | (exact fin0 (by simp [ackH, h1]) rfl) | (refine ⟨by decide +kernel, ?_⟩; exact fin0 (by simp [ackH, h1]) rfl)
  refine run_br_split (fun h2 => ?_) (fun h2 => ?_) <;> simp only [h2] <;> simp [Tryz.ntmps122, Tryz.results122]
  · have h2' : s.v.open_ = false := by simpa using h2
    first | (exact fin0 (by simp [ackH, h1, h2']) rfl) | (refine ⟨by decide +kernel, ?_⟩; exact fin0 (by simp [ackH, h1, h2']) rfl)
  have h2' : s.v.open_ = true := by simpa using h2
  refine CW.callP (answered_p s.v f (hl h2').1 (hl h2').2) Tryz.call189 rfl rfl rfl (by first | exact .inl rfl | exact .inr ⟨_, _, rfl, by simp⟩ | exact .inr ⟨_, _, rfl, by simp [*]⟩) rfl (by simp) rfl rfl (CW.runOps 9999 400 rfl ?_)
  simp [Tryz.ntmps122, Tryz.results122]
  refine run_br_split (fun h3 => ?_) (fun h3 => ?_) <;> simp only [h3] <;> simp [Tryz.ntmps122, Tryz.results122]
  · first | (exact fin0 (by simp [ackH, h1, h2', h3]) rfl) | (refine ⟨by decide +kernel, ?_⟩; exact fin0 (by simp [ackH, h1, h2', h3]) rfl)
  refine run_br_split (fun h4 => ?_) (fun h4 => ?_) <;> simp only [h4] <;> simp [Tryz.ntmps122, Tryz.results122] <;> (try simp only [Bool.not_eq_true', Bool.not_eq_false', decide_eq_true_eq, decide_eq_false_iff_not] at h4)
  · have h4' : 64 < (ansV s.v f).have_.length := by omega
    first | (exact fin0 (by simp [ackH, h1, h2', h3, h4']) rfl) | (refine ⟨by decide +kernel, ?_⟩; exact fin0 (by simp [ackH, h1, h2', h3, h4']) rfl)
  have h4' : ¬ 64 < (ansV s.v f).have_.length := by omega
  refine CW.callP (now_p p hp) Tryz.call34 rfl rfl rfl (by first | exact .inl rfl | exact .inr ⟨_, _, rfl, by simp⟩ | exact .inr ⟨_, _, rfl, by simp [*]⟩) rfl (by simp) rfl rfl (CW.runOps 9999 400 rfl ?_)
  simp [Tryz.ntmps122, Tryz.results122]
  first | (exact fin0 (by simp [ackH, h1, h2', h3, h4', nowI]) rfl) | (refine ⟨by decide +kernel, ?_⟩; exact fin0 (by simp [ackH, h1, h2', h3, h4', nowI]) rfl)
theorem behind0 : Ct Tryz.prog 56 [int 0] [] [] (.d (fnD 120)) [] := by
  refine Ct.of_body Tryz.func56 rfl mixed (by rw [Tryz.ntmps56]; simp) (CW.run 9999 400 rfl ?_)
  simp [Tryz.ntmps56, Tryz.results56]
  first | (exact fin0 (by simp) rfl) | (refine ⟨by decide +kernel, ?_⟩; exact fin0 (by simp) rfl)
theorem behind1 : Ct Tryz.prog 56 [int 1] [] [] (.d (fnD 121)) [] := by
  refine Ct.of_body Tryz.func56 rfl mixed (by rw [Tryz.ntmps56]; simp) (CW.run 9999 400 rfl ?_)
  simp [Tryz.ntmps56, Tryz.results56]
  first | (exact fin0 (by simp) rfl) | (refine ⟨by decide +kernel, ?_⟩; exact fin0 (by simp) rfl)
theorem behind2 : Ct Tryz.prog 56 [int 2] [] [] (.d (fnD 122)) [] := by
  refine Ct.of_body Tryz.func56 rfl mixed (by rw [Tryz.ntmps56]; simp) (CW.run 9999 400 rfl ?_)
  simp [Tryz.ntmps56, Tryz.results56]
  first | (exact fin0 (by simp) rfl) | (refine ⟨by decide +kernel, ?_⟩; exact fin0 (by simp) rfl)
theorem behind3 : Ct Tryz.prog 56 [int 3] [] [] (.d (fnD 123)) [] := by
  refine Ct.of_body Tryz.func56 rfl mixed (by rw [Tryz.ntmps56]; simp) (CW.run 9999 400 rfl ?_)
  simp [Tryz.ntmps56, Tryz.results56]
  first | (exact fin0 (by simp) rfl) | (refine ⟨by decide +kernel, ?_⟩; exact fin0 (by simp) rfl)
theorem handleW_s (s : Sess) (p : Store) (f : G.Frame) (hd : s.v.held.length ≤ 9223372036854775807) (hs : OkFrame s.v.push) (hl : s.v.have_.length ≤ 1000000) (hf : OkFrame f) (hp : OkStore p) (hpl : p.hist.length ≤ 1000000) : Ct Tryz.prog 14 [st (sessC s), st (storeC p), st (frameC f)] [] [] (.tup [st (sessC (handle s p f).1), int (handle s p f).2]) [] := by
  refine Ct.of_body Tryz.func14 rfl mixed (by rw [Tryz.ntmps14]; simp) (CW.run 9999 400 rfl ?_)
  simp [Tryz.ntmps14, Tryz.results14]
  refine CW.callP (soundW_p s hd hs hl) Tryz.call55 rfl rfl rfl (by first | exact .inl rfl | exact .inr ⟨_, _, rfl, by simp⟩ | exact .inr ⟨_, _, rfl, by simp [*]⟩) rfl (by simp) rfl rfl (CW.runOps 9999 400 rfl ?_)
  simp [Tryz.ntmps14, Tryz.results14]
  have hq0 := soundS_sane s
  have hh : handle s p f = handleQ (soundS s) p f := rfl
  rw [hh]
  clear hh
  generalize soundS s = q at hq0 ⊢
  have S := saneS_iff.1 hq0
  refine CW.callP (frame_f f hf) Tryz.call22 rfl rfl rfl (by first | exact .inl rfl | exact .inr ⟨_, _, rfl, by simp⟩ | exact .inr ⟨_, _, rfl, by simp [*]⟩) rfl (by simp) rfl rfl (CW.runOps 9999 400 rfl ?_)
  simp [Tryz.ntmps14, Tryz.results14]
  refine run_br_split (fun h1 => ?_) (fun h1 => ?_) <;> simp only [h1] <;> simp [Tryz.ntmps14, Tryz.results14] <;> (try simp only [Bool.not_eq_true', Bool.not_eq_false', decide_eq_true_eq, decide_eq_false_iff_not] at h1)
  · first | (exact fin0 (by simp [handleQ, h1]) rfl) | (refine ⟨by decide +kernel, ?_⟩; exact fin0 (by simp [handleQ, h1]) rfl)
  refine run_br_split (fun h2 => ?_) (fun h2 => ?_) <;> simp only [h2] <;> simp [Tryz.ntmps14, Tryz.results14] <;> (try simp only [Bool.not_eq_true', Bool.not_eq_false', decide_eq_true_eq, decide_eq_false_iff_not] at h2)
  · first | (exact fin0 (by simp [handleQ, h1, h2]) rfl) | (refine ⟨by decide +kernel, ?_⟩; exact fin0 (by simp [handleQ, h1, h2]) rfl)
  have F := frameE_zero.1 h1
  have L := small_len F.small
  have hS := S.hl
  rcases push_type h1 with h3 | h3 | h3 | h3
  · refine CW.callP (behind0 ) Tryz.call56 rfl rfl rfl (by first | exact .inl rfl | exact .inr ⟨_, _, rfl, by simp⟩ | exact .inr ⟨_, _, rfl, by simp [*]⟩) rfl (by simp [h3]) rfl rfl (CW.runOps 9999 400 rfl ?_)
    simp [h3, Tryz.ntmps14, Tryz.results14]
    refine CW.callF (FnOk.of (hello_s q p f hp (by omega)) Tryz.call120 rfl rfl) rfl rfl rfl (by first | exact .inl rfl | exact .inr ⟨_, _, rfl, by simp⟩ | exact .inr ⟨_, _, rfl, by simp [*]⟩) rfl (by simp [h3]) (CW.runOps 9999 400 rfl ?_)
    simp [h3, Tryz.ntmps14, Tryz.results14]
    refine ⟨by decide +kernel, ?_⟩
    first | (exact fin0 (by simp [handleQ, h1, h2, h3]) rfl) | (refine ⟨by decide +kernel, ?_⟩; exact fin0 (by simp [handleQ, h1, h2, h3]) rfl)
  · refine CW.callP (behind1 ) Tryz.call56 rfl rfl rfl (by first | exact .inl rfl | exact .inr ⟨_, _, rfl, by simp⟩ | exact .inr ⟨_, _, rfl, by simp [*]⟩) rfl (by simp [h3]) rfl rfl (CW.runOps 9999 400 rfl ?_)
    simp [h3, Tryz.ntmps14, Tryz.results14]
    refine CW.callF (FnOk.of (push_s q p f) Tryz.call121 rfl rfl) rfl rfl rfl (by first | exact .inl rfl | exact .inr ⟨_, _, rfl, by simp⟩ | exact .inr ⟨_, _, rfl, by simp [*]⟩) rfl (by simp [h3]) (CW.runOps 9999 400 rfl ?_)
    simp [h3, Tryz.ntmps14, Tryz.results14]
    refine ⟨by decide +kernel, ?_⟩
    first | (exact fin0 (by simp [handleQ, h1, h2, h3]) rfl) | (refine ⟨by decide +kernel, ?_⟩; exact fin0 (by simp [handleQ, h1, h2, h3]) rfl)
  · refine CW.callP (behind2 ) Tryz.call56 rfl rfl rfl (by first | exact .inl rfl | exact .inr ⟨_, _, rfl, by simp⟩ | exact .inr ⟨_, _, rfl, by simp [*]⟩) rfl (by simp [h3]) rfl rfl (CW.runOps 9999 400 rfl ?_)
    simp [h3, Tryz.ntmps14, Tryz.results14]
    refine CW.callF (FnOk.of (ack_s q p f (open_b S) hpl) Tryz.call122 rfl rfl) rfl rfl rfl (by first | exact .inl rfl | exact .inr ⟨_, _, rfl, by simp⟩ | exact .inr ⟨_, _, rfl, by simp [*]⟩) rfl (by simp [h3]) (CW.runOps 9999 400 rfl ?_)
    simp [h3, Tryz.ntmps14, Tryz.results14]
    refine ⟨by decide +kernel, ?_⟩
    first | (exact fin0 (by simp [handleQ, h1, h2, h3]) rfl) | (refine ⟨by decide +kernel, ?_⟩; exact fin0 (by simp [handleQ, h1, h2, h3]) rfl)
  · refine CW.callP (behind3 ) Tryz.call56 rfl rfl rfl (by first | exact .inl rfl | exact .inr ⟨_, _, rfl, by simp⟩ | exact .inr ⟨_, _, rfl, by simp [*]⟩) rfl (by simp [h3]) rfl rfl (CW.runOps 9999 400 rfl ?_)
    simp [h3, Tryz.ntmps14, Tryz.results14]
    refine CW.callF (FnOk.of (drain_s q p f) Tryz.call123 rfl rfl) rfl rfl rfl (by first | exact .inl rfl | exact .inr ⟨_, _, rfl, by simp⟩ | exact .inr ⟨_, _, rfl, by simp [*]⟩) rfl (by simp [h3]) (CW.runOps 9999 400 rfl ?_)
    simp [h3, Tryz.ntmps14, Tryz.results14]
    refine ⟨by decide +kernel, ?_⟩
    first | (exact fin0 (by simp [handleQ, h1, h2, h3]) rfl) | (refine ⟨by decide +kernel, ?_⟩; exact fin0 (by simp [handleQ, h1, h2, h3]) rfl)
theorem handle_s (s : Sess) (p : Store) (f : G.Frame) (hs : OkSess s) (hl : s.v.have_.length ≤ 1000000) (hf : OkFrame f) (hp : OkStore p) (hpl : p.hist.length ≤ 1000000) : Ct Tryz.prog 14 [st (sessC s), st (storeC p), st (frameC f)] [] [] (.tup [st (sessC (handle s p f).1), int (handle s p f).2]) [] := handleW_s s p f hs.v.held hs.v.push hl hf hp hpl
end Go.Proofs.YtbmnaehodmgibaaGreatDoor
end
