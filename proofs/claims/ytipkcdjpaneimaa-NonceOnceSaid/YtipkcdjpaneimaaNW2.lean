/-
  LAYER 13: the walks of Push, Done and Take, of the program and of the reference.
-/
import Derived.Test.YtipkcdjpaneimaaNW1
set_option linter.unusedSimpArgs false
set_option linter.unusedVariables false
namespace Go.Proofs.Ytipkcdjpaneimaa
open Go.AI Go.Nonce

-- groyne/nonce.out
theorem out (a b c d : Int) (x y z t : Bool) (m : Int) : CtP Try.prog 23 [ouL a b c d x y z t m] (ouV (outF ⟨a, b, c, d, x, y, z, t, m⟩)) := by
  refine CtP.of_body Try.func23 rfl mixed (by rw [Try.ntmps23]; simp) (CW.run 300 rfl ?_)
  simp [Try.ntmps23, Try.results23]
  repeat' first
    | (refine run_gd_split (fun h => ?_) (fun h => ?_) <;> simp [h, Try.ntmps23, Try.results23])
    | (refine run_br_split (fun h => ?_) (fun h => ?_) <;> simp [h, Try.ntmps23, Try.results23])
    | (refine ⟨by decide +kernel, ?_⟩)
    | (refine LoopW.unroll mixed (Plain.ret _ _ _) rfl (CW.run 300 rfl ?_); simp [*, Try.ntmps23, Try.results23])
    | (refine CW.call (good _ _ _ _ _ _ _ _ _) (fun _ _ => by simp [Try.call19]) rfl rfl rfl (by first | exact .inl rfl | exact .inr ⟨_, _, rfl, by simp [*]⟩) rfl rfl rfl (CW.runOps 300 rfl ?_); simp [*, Try.ntmps23, Try.results23])
    | (refine CW.call (start _) (fun _ _ => by simp [Try.call17]) rfl rfl rfl (by first | exact .inl rfl | exact .inr ⟨_, _, rfl, by simp [*]⟩) rfl rfl rfl (CW.runOps 300 rfl ?_); simp [*, Try.ntmps23, Try.results23])
  all_goals
    refine Sub.of_eq ?_ rfl
    simp [outF, *]

-- groyne/groyneref13.good
theorem outR (a b c d : Int) (x y z t : Bool) (m : Int) : CtP Try.prog 25 [ouL a b c d x y z t m] (ouV (outF ⟨a, b, c, d, x, y, z, t, m⟩)) := by
  refine CtP.of_body Try.func25 rfl mixed (by rw [Try.ntmps25]; simp) (CW.run 300 rfl ?_)
  simp [Try.ntmps25, Try.results25]
  repeat' first
    | (refine run_gd_split (fun h => ?_) (fun h => ?_) <;> simp [h, Try.ntmps25, Try.results25])
    | (refine run_br_split (fun h => ?_) (fun h => ?_) <;> simp [h, Try.ntmps25, Try.results25])
    | (refine ⟨by decide +kernel, ?_⟩)
    | (refine LoopW.unroll mixed (Plain.ret _ _ _) rfl (CW.run 300 rfl ?_); simp [*, Try.ntmps25, Try.results25])
    | (refine CW.call (goodR _ _ _ _ _ _ _ _ _) (fun _ _ => by simp [Try.call20]) rfl rfl rfl (by first | exact .inl rfl | exact .inr ⟨_, _, rfl, by simp [*]⟩) rfl rfl rfl (CW.runOps 300 rfl ?_); simp [*, Try.ntmps25, Try.results25])
    | (refine CW.call (startR _) (fun _ _ => by simp [Try.call18]) rfl rfl rfl (by first | exact .inl rfl | exact .inr ⟨_, _, rfl, by simp [*]⟩) rfl rfl rfl (CW.runOps 300 rfl ?_); simp [*, Try.ntmps25, Try.results25])
  all_goals
    refine Sub.of_eq ?_ rfl
    simp [outF, *]

-- groyne/nonce.in
theorem inn (a b c d m : Int) : CtP Try.prog 26 [nnL a b c d m] (nnV (inF ⟨a, b, c, d, m⟩)) := by
  refine CtP.of_body Try.func26 rfl mixed (by rw [Try.ntmps26]; simp) (CW.run 300 rfl ?_)
  simp [Try.ntmps26, Try.results26]
  repeat' first
    | (refine run_gd_split (fun h => ?_) (fun h => ?_) <;> simp [h, Try.ntmps26, Try.results26])
    | (refine run_br_split (fun h => ?_) (fun h => ?_) <;> simp [h, Try.ntmps26, Try.results26])
    | (refine ⟨by decide +kernel, ?_⟩)
    | (refine LoopW.unroll mixed (Plain.ret _ _ _) rfl (CW.run 300 rfl ?_); simp [*, Try.ntmps26, Try.results26])
    | (refine CW.call (sound _ _ _ _ _) (fun _ _ => by simp [Try.call21]) rfl rfl rfl (by first | exact .inl rfl | exact .inr ⟨_, _, rfl, by simp [*]⟩) rfl rfl rfl (CW.runOps 300 rfl ?_); simp [*, Try.ntmps26, Try.results26])
    | (refine CW.call (start _) (fun _ _ => by simp [Try.call17]) rfl rfl rfl (by first | exact .inl rfl | exact .inr ⟨_, _, rfl, by simp [*]⟩) rfl rfl rfl (CW.runOps 300 rfl ?_); simp [*, Try.ntmps26, Try.results26])
  all_goals
    refine Sub.of_eq ?_ rfl
    simp [inF, *]

-- groyne/groyneref13.sound
theorem innR (a b c d m : Int) : CtP Try.prog 27 [nnL a b c d m] (nnV (inF ⟨a, b, c, d, m⟩)) := by
  refine CtP.of_body Try.func27 rfl mixed (by rw [Try.ntmps27]; simp) (CW.run 300 rfl ?_)
  simp [Try.ntmps27, Try.results27]
  repeat' first
    | (refine run_gd_split (fun h => ?_) (fun h => ?_) <;> simp [h, Try.ntmps27, Try.results27])
    | (refine run_br_split (fun h => ?_) (fun h => ?_) <;> simp [h, Try.ntmps27, Try.results27])
    | (refine ⟨by decide +kernel, ?_⟩)
    | (refine LoopW.unroll mixed (Plain.ret _ _ _) rfl (CW.run 300 rfl ?_); simp [*, Try.ntmps27, Try.results27])
    | (refine CW.call (soundR _ _ _ _ _) (fun _ _ => by simp [Try.call22]) rfl rfl rfl (by first | exact .inl rfl | exact .inr ⟨_, _, rfl, by simp [*]⟩) rfl rfl rfl (CW.runOps 300 rfl ?_); simp [*, Try.ntmps27, Try.results27])
    | (refine CW.call (startR _) (fun _ _ => by simp [Try.call18]) rfl rfl rfl (by first | exact .inl rfl | exact .inr ⟨_, _, rfl, by simp [*]⟩) rfl rfl rfl (CW.runOps 300 rfl ?_); simp [*, Try.ntmps27, Try.results27])
  all_goals
    refine Sub.of_eq ?_ rfl
    simp [inF, *]
-- groyne/nonce.Push
theorem push_w (a b c d : Int) (x y z t : Bool) (m : Int) (k : Int) : CtP Try.prog 9 [ouL a b c d x y z t m, int k] (.tup [ouV (push ⟨a, b, c, d, x, y, z, t, m⟩ k).1, int (push ⟨a, b, c, d, x, y, z, t, m⟩ k).2.1, int (push ⟨a, b, c, d, x, y, z, t, m⟩ k).2.2]) := by
  refine CtP.of_body Try.func9 rfl mixed (by rw [Try.ntmps9]; simp) (CW.run 300 rfl ?_)
  simp [Try.ntmps9, Try.results9]
  refine CW.call (out _ _ _ _ _ _ _ _ _) (fun _ _ => by simp [Try.call23]) rfl rfl rfl (by first | exact .inl rfl | exact .inr ⟨_, _, rfl, by simp []⟩) rfl rfl rfl (CW.runOps 300 rfl ?_)
  simp only [push]
  have hb := outF_ok ⟨a, b, c, d, x, y, z, t, m⟩
  generalize outF ⟨a, b, c, d, x, y, z, t, m⟩ = q at hb ⊢
  obtain ⟨A, B, C, D, X, Y, Z, T, M⟩ := q
  simp only [Ou.ok] at hb
  have wA : IntKind.wrap .i64 (A + 1) = A + 1 := wrap_i64 (by omega) (by omega)
  have wB : IntKind.wrap .i64 (B + 1) = B + 1 := wrap_i64 (by omega) (by omega)
  have wC : IntKind.wrap .i64 (C + 1) = C + 1 := wrap_i64 (by omega) (by omega)
  have wD : IntKind.wrap .i64 (D + 1) = D + 1 := wrap_i64 (by omega) (by omega)
  simp [Try.ntmps9, Try.results9]
  by_cases hk : kindB k = true
  · refine CW.call (known k) (fun _ _ => by simp [Try.call24]) rfl rfl rfl (by first | exact .inl rfl | exact .inr ⟨_, _, rfl, by simp [hk]⟩) rfl rfl rfl (CW.runOps 300 rfl ?_)
    simp [hk, Try.ntmps9, Try.results9]
    rcases kindB_is hk with rfl | rfl | rfl | rfl
    all_goals try simp
    all_goals
      repeat' first
        | (refine run_gd_split (fun h => ?_) (fun h => ?_) <;> simp [h, wA, wB, wC, wD, Try.ntmps9, Try.results9])
        | (refine run_br_split (fun h => ?_) (fun h => ?_) <;> simp [h, wA, wB, wC, wD, Try.ntmps9, Try.results9])
        | (refine ⟨by decide +kernel, ?_⟩)
        | (refine LoopW.unroll mixed (Plain.ret _ _ _) rfl (CW.run 300 rfl ?_); simp [*, wA, wB, wC, wD, Try.ntmps9, Try.results9])
    all_goals
      clear wA wB wC wD
      refine Sub.of_eq ?_ rfl
      simp_all [pushQ, Ou.open', Ou.last, Ou.set, Nn.last, Nn.set]
  · refine CW.call (known k) (fun _ _ => by simp [Try.call24]) rfl rfl rfl (by first | exact .inl rfl | exact .inr ⟨_, _, rfl, by simp [hk]⟩) rfl rfl rfl (CW.runOps 300 rfl ?_)
    simp [hk, Try.ntmps9, Try.results9]
    refine Sub.of_eq ?_ rfl
    simp [pushQ, hk]

-- groyne/groyneref13.Push
theorem pushR_w (a b c d : Int) (x y z t : Bool) (m : Int) (k : Int) : CtP Try.prog 11 [ouL a b c d x y z t m, int k] (.tup [ouV (push ⟨a, b, c, d, x, y, z, t, m⟩ k).1, int (push ⟨a, b, c, d, x, y, z, t, m⟩ k).2.1, int (push ⟨a, b, c, d, x, y, z, t, m⟩ k).2.2]) := by
  refine CtP.of_body Try.func11 rfl mixed (by rw [Try.ntmps11]; simp) (CW.run 300 rfl ?_)
  simp [Try.ntmps11, Try.results11]
  refine CW.call (outR _ _ _ _ _ _ _ _ _) (fun _ _ => by simp [Try.call25]) rfl rfl rfl (by first | exact .inl rfl | exact .inr ⟨_, _, rfl, by simp []⟩) rfl rfl rfl (CW.runOps 300 rfl ?_)
  simp only [push]
  have hb := outF_ok ⟨a, b, c, d, x, y, z, t, m⟩
  generalize outF ⟨a, b, c, d, x, y, z, t, m⟩ = q at hb ⊢
  obtain ⟨A, B, C, D, X, Y, Z, T, M⟩ := q
  simp only [Ou.ok] at hb
  have wA : IntKind.wrap .i64 (A + 1) = A + 1 := wrap_i64 (by omega) (by omega)
  have wB : IntKind.wrap .i64 (B + 1) = B + 1 := wrap_i64 (by omega) (by omega)
  have wC : IntKind.wrap .i64 (C + 1) = C + 1 := wrap_i64 (by omega) (by omega)
  have wD : IntKind.wrap .i64 (D + 1) = D + 1 := wrap_i64 (by omega) (by omega)
  simp [Try.ntmps11, Try.results11]
  by_cases hk : kindB k = true
  · rcases kindB_is hk with rfl | rfl | rfl | rfl
    all_goals try simp
    all_goals
      repeat' first
        | (refine run_gd_split (fun h => ?_) (fun h => ?_) <;> simp [h, wA, wB, wC, wD, Try.ntmps11, Try.results11])
        | (refine run_br_split (fun h => ?_) (fun h => ?_) <;> simp [h, wA, wB, wC, wD, Try.ntmps11, Try.results11])
        | (refine ⟨by decide +kernel, ?_⟩)
        | (refine LoopW.unroll mixed (Plain.ret _ _ _) rfl (CW.run 300 rfl ?_); simp [*, wA, wB, wC, wD, Try.ntmps11, Try.results11])
    all_goals
      clear wA wB wC wD
      refine Sub.of_eq ?_ rfl
      simp_all [pushQ, Ou.open', Ou.last, Ou.set, Nn.last, Nn.set]
  · have hk' : k < 0 ∨ 4 ≤ k := by simp only [kindB, Bool.and_eq_true, decide_eq_true_iff] at hk; omega
    repeat' first
      | (refine run_gd_split (fun h => ?_) (fun h => ?_) <;> simp [h, wA, wB, wC, wD, Try.ntmps11, Try.results11])
      | (refine run_br_split (fun h => ?_) (fun h => ?_) <;> simp [h, wA, wB, wC, wD, Try.ntmps11, Try.results11])
      | (refine ⟨by decide +kernel, ?_⟩)
      | (refine LoopW.unroll mixed (Plain.ret _ _ _) rfl (CW.run 300 rfl ?_); simp [*, wA, wB, wC, wD, Try.ntmps11, Try.results11])
    all_goals
      first
        | (refine Sub.of_eq ?_ rfl; simp [pushQ, hk]; done)
        | (exfalso; simp only [decide_eq_true_iff, decide_eq_false_iff_not] at *; omega)

-- groyne/nonce.Done
theorem done_w (a b c d : Int) (x y z t : Bool) (m : Int) (k n : Int) : CtP Try.prog 12 [ouL a b c d x y z t m, int k, int n] (.tup [ouV (done ⟨a, b, c, d, x, y, z, t, m⟩ k n).1, int (done ⟨a, b, c, d, x, y, z, t, m⟩ k n).2]) := by
  refine CtP.of_body Try.func12 rfl mixed (by rw [Try.ntmps12]; simp) (CW.run 300 rfl ?_)
  simp [Try.ntmps12, Try.results12]
  refine CW.call (out _ _ _ _ _ _ _ _ _) (fun _ _ => by simp [Try.call23]) rfl rfl rfl (by first | exact .inl rfl | exact .inr ⟨_, _, rfl, by simp []⟩) rfl rfl rfl (CW.runOps 300 rfl ?_)
  simp only [done]
  have hb := outF_ok ⟨a, b, c, d, x, y, z, t, m⟩
  generalize outF ⟨a, b, c, d, x, y, z, t, m⟩ = q at hb ⊢
  obtain ⟨A, B, C, D, X, Y, Z, T, M⟩ := q
  simp only [Ou.ok] at hb
  have wA : IntKind.wrap .i64 (A + 1) = A + 1 := wrap_i64 (by omega) (by omega)
  have wB : IntKind.wrap .i64 (B + 1) = B + 1 := wrap_i64 (by omega) (by omega)
  have wC : IntKind.wrap .i64 (C + 1) = C + 1 := wrap_i64 (by omega) (by omega)
  have wD : IntKind.wrap .i64 (D + 1) = D + 1 := wrap_i64 (by omega) (by omega)
  simp [Try.ntmps12, Try.results12]
  by_cases hk : kindB k = true
  · refine CW.call (known k) (fun _ _ => by simp [Try.call24]) rfl rfl rfl (by first | exact .inl rfl | exact .inr ⟨_, _, rfl, by simp [hk]⟩) rfl rfl rfl (CW.runOps 300 rfl ?_)
    simp [hk, Try.ntmps12, Try.results12]
    rcases kindB_is hk with rfl | rfl | rfl | rfl
    all_goals try simp
    all_goals
      repeat' first
        | (refine run_gd_split (fun h => ?_) (fun h => ?_) <;> simp [h, wA, wB, wC, wD, Try.ntmps12, Try.results12])
        | (refine run_br_split (fun h => ?_) (fun h => ?_) <;> simp [h, wA, wB, wC, wD, Try.ntmps12, Try.results12])
        | (refine ⟨by decide +kernel, ?_⟩)
        | (refine LoopW.unroll mixed (Plain.ret _ _ _) rfl (CW.run 300 rfl ?_); simp [*, wA, wB, wC, wD, Try.ntmps12, Try.results12])
    all_goals
      clear wA wB wC wD
      refine Sub.of_eq ?_ rfl
      simp_all [doneQ, Ou.open', Ou.last, Ou.set, Nn.last, Nn.set]
  · refine CW.call (known k) (fun _ _ => by simp [Try.call24]) rfl rfl rfl (by first | exact .inl rfl | exact .inr ⟨_, _, rfl, by simp [hk]⟩) rfl rfl rfl (CW.runOps 300 rfl ?_)
    simp [hk, Try.ntmps12, Try.results12]
    refine Sub.of_eq ?_ rfl
    simp [doneQ, hk]

-- groyne/groyneref13.Done
theorem doneR_w (a b c d : Int) (x y z t : Bool) (m : Int) (k n : Int) : CtP Try.prog 13 [ouL a b c d x y z t m, int k, int n] (.tup [ouV (done ⟨a, b, c, d, x, y, z, t, m⟩ k n).1, int (done ⟨a, b, c, d, x, y, z, t, m⟩ k n).2]) := by
  refine CtP.of_body Try.func13 rfl mixed (by rw [Try.ntmps13]; simp) (CW.run 300 rfl ?_)
  simp [Try.ntmps13, Try.results13]
  refine CW.call (outR _ _ _ _ _ _ _ _ _) (fun _ _ => by simp [Try.call25]) rfl rfl rfl (by first | exact .inl rfl | exact .inr ⟨_, _, rfl, by simp []⟩) rfl rfl rfl (CW.runOps 300 rfl ?_)
  simp only [done]
  have hb := outF_ok ⟨a, b, c, d, x, y, z, t, m⟩
  generalize outF ⟨a, b, c, d, x, y, z, t, m⟩ = q at hb ⊢
  obtain ⟨A, B, C, D, X, Y, Z, T, M⟩ := q
  simp only [Ou.ok] at hb
  have wA : IntKind.wrap .i64 (A + 1) = A + 1 := wrap_i64 (by omega) (by omega)
  have wB : IntKind.wrap .i64 (B + 1) = B + 1 := wrap_i64 (by omega) (by omega)
  have wC : IntKind.wrap .i64 (C + 1) = C + 1 := wrap_i64 (by omega) (by omega)
  have wD : IntKind.wrap .i64 (D + 1) = D + 1 := wrap_i64 (by omega) (by omega)
  simp [Try.ntmps13, Try.results13]
  by_cases hk : kindB k = true
  · rcases kindB_is hk with rfl | rfl | rfl | rfl
    all_goals try simp
    all_goals
      repeat' first
        | (refine run_gd_split (fun h => ?_) (fun h => ?_) <;> simp [h, wA, wB, wC, wD, Try.ntmps13, Try.results13])
        | (refine run_br_split (fun h => ?_) (fun h => ?_) <;> simp [h, wA, wB, wC, wD, Try.ntmps13, Try.results13])
        | (refine ⟨by decide +kernel, ?_⟩)
        | (refine LoopW.unroll mixed (Plain.ret _ _ _) rfl (CW.run 300 rfl ?_); simp [*, wA, wB, wC, wD, Try.ntmps13, Try.results13])
    all_goals
      clear wA wB wC wD
      refine Sub.of_eq ?_ rfl
      simp_all [doneQ, Ou.open', Ou.last, Ou.set, Nn.last, Nn.set]
  · have hk' : k < 0 ∨ 4 ≤ k := by simp only [kindB, Bool.and_eq_true, decide_eq_true_iff] at hk; omega
    repeat' first
      | (refine run_gd_split (fun h => ?_) (fun h => ?_) <;> simp [h, wA, wB, wC, wD, Try.ntmps13, Try.results13])
      | (refine run_br_split (fun h => ?_) (fun h => ?_) <;> simp [h, wA, wB, wC, wD, Try.ntmps13, Try.results13])
      | (refine ⟨by decide +kernel, ?_⟩)
      | (refine LoopW.unroll mixed (Plain.ret _ _ _) rfl (CW.run 300 rfl ?_); simp [*, wA, wB, wC, wD, Try.ntmps13, Try.results13])
    all_goals
      first
        | (refine Sub.of_eq ?_ rfl; simp [doneQ, hk]; done)
        | (exfalso; simp only [decide_eq_true_iff, decide_eq_false_iff_not] at *; omega)

-- groyne/nonce.Take
theorem take_w (a b c d m : Int) (k n : Int) : CtP Try.prog 14 [nnL a b c d m, int k, int n] (.tup [nnV (take ⟨a, b, c, d, m⟩ k n).1, int (take ⟨a, b, c, d, m⟩ k n).2]) := by
  refine CtP.of_body Try.func14 rfl mixed (by rw [Try.ntmps14]; simp) (CW.run 300 rfl ?_)
  simp [Try.ntmps14, Try.results14]
  refine CW.call (inn _ _ _ _ _) (fun _ _ => by simp [Try.call26]) rfl rfl rfl (by first | exact .inl rfl | exact .inr ⟨_, _, rfl, by simp []⟩) rfl rfl rfl (CW.runOps 300 rfl ?_)
  simp only [take]
  have hb := inF_ok ⟨a, b, c, d, m⟩
  generalize inF ⟨a, b, c, d, m⟩ = q at hb ⊢
  obtain ⟨A, B, C, D, M⟩ := q
  simp only [Nn.ok] at hb
  have wA : IntKind.wrap .i64 (A + 1) = A + 1 := wrap_i64 (by omega) (by omega)
  have wB : IntKind.wrap .i64 (B + 1) = B + 1 := wrap_i64 (by omega) (by omega)
  have wC : IntKind.wrap .i64 (C + 1) = C + 1 := wrap_i64 (by omega) (by omega)
  have wD : IntKind.wrap .i64 (D + 1) = D + 1 := wrap_i64 (by omega) (by omega)
  simp [Try.ntmps14, Try.results14]
  by_cases hk : kindB k = true
  · refine CW.call (known k) (fun _ _ => by simp [Try.call24]) rfl rfl rfl (by first | exact .inl rfl | exact .inr ⟨_, _, rfl, by simp [hk]⟩) rfl rfl rfl (CW.runOps 300 rfl ?_)
    simp [hk, Try.ntmps14, Try.results14]
    rcases kindB_is hk with rfl | rfl | rfl | rfl
    all_goals try simp
    all_goals
      repeat' first
        | (refine run_gd_split (fun h => ?_) (fun h => ?_) <;> simp [h, wA, wB, wC, wD, Try.ntmps14, Try.results14])
        | (refine run_br_split (fun h => ?_) (fun h => ?_) <;> simp [h, wA, wB, wC, wD, Try.ntmps14, Try.results14])
        | (refine ⟨by decide +kernel, ?_⟩)
        | (refine LoopW.unroll mixed (Plain.ret _ _ _) rfl (CW.run 300 rfl ?_); simp [*, wA, wB, wC, wD, Try.ntmps14, Try.results14])
    all_goals
      clear wA wB wC wD
      refine Sub.of_eq ?_ rfl
      try simp only [decide_eq_true_iff, decide_eq_false_iff_not] at *
      first
        | (simp [*, takeQ, Nn.last, Nn.set]; done)
        | grind [takeQ, Nn.last, Nn.set]
  · refine CW.call (known k) (fun _ _ => by simp [Try.call24]) rfl rfl rfl (by first | exact .inl rfl | exact .inr ⟨_, _, rfl, by simp [hk]⟩) rfl rfl rfl (CW.runOps 300 rfl ?_)
    simp [hk, Try.ntmps14, Try.results14]
    refine Sub.of_eq ?_ rfl
    simp [takeQ, hk]

-- groyne/groyneref13.Take
theorem takeR_w (a b c d m : Int) (k n : Int) : CtP Try.prog 16 [nnL a b c d m, int k, int n] (.tup [nnV (take ⟨a, b, c, d, m⟩ k n).1, int (take ⟨a, b, c, d, m⟩ k n).2]) := by
  refine CtP.of_body Try.func16 rfl mixed (by rw [Try.ntmps16]; simp) (CW.run 300 rfl ?_)
  simp [Try.ntmps16, Try.results16]
  refine CW.call (innR _ _ _ _ _) (fun _ _ => by simp [Try.call27]) rfl rfl rfl (by first | exact .inl rfl | exact .inr ⟨_, _, rfl, by simp []⟩) rfl rfl rfl (CW.runOps 300 rfl ?_)
  simp only [take]
  have hb := inF_ok ⟨a, b, c, d, m⟩
  generalize inF ⟨a, b, c, d, m⟩ = q at hb ⊢
  obtain ⟨A, B, C, D, M⟩ := q
  simp only [Nn.ok] at hb
  have wA : IntKind.wrap .i64 (A + 1) = A + 1 := wrap_i64 (by omega) (by omega)
  have wB : IntKind.wrap .i64 (B + 1) = B + 1 := wrap_i64 (by omega) (by omega)
  have wC : IntKind.wrap .i64 (C + 1) = C + 1 := wrap_i64 (by omega) (by omega)
  have wD : IntKind.wrap .i64 (D + 1) = D + 1 := wrap_i64 (by omega) (by omega)
  simp [Try.ntmps16, Try.results16]
  by_cases hk : kindB k = true
  · rcases kindB_is hk with rfl | rfl | rfl | rfl
    all_goals try simp
    all_goals
      repeat' first
        | (refine run_gd_split (fun h => ?_) (fun h => ?_) <;> simp [h, wA, wB, wC, wD, Try.ntmps16, Try.results16])
        | (refine run_br_split (fun h => ?_) (fun h => ?_) <;> simp [h, wA, wB, wC, wD, Try.ntmps16, Try.results16])
        | (refine ⟨by decide +kernel, ?_⟩)
        | (refine LoopW.unroll mixed (Plain.ret _ _ _) rfl (CW.run 300 rfl ?_); simp [*, wA, wB, wC, wD, Try.ntmps16, Try.results16])
    all_goals
      clear wA wB wC wD
      refine Sub.of_eq ?_ rfl
      try simp only [decide_eq_true_iff, decide_eq_false_iff_not] at *
      first
        | (simp [*, takeQ, Nn.last, Nn.set]; done)
        | grind [takeQ, Nn.last, Nn.set]
  · have hk' : k < 0 ∨ 4 ≤ k := by simp only [kindB, Bool.and_eq_true, decide_eq_true_iff] at hk; omega
    repeat' first
      | (refine run_gd_split (fun h => ?_) (fun h => ?_) <;> simp [h, wA, wB, wC, wD, Try.ntmps16, Try.results16])
      | (refine run_br_split (fun h => ?_) (fun h => ?_) <;> simp [h, wA, wB, wC, wD, Try.ntmps16, Try.results16])
      | (refine ⟨by decide +kernel, ?_⟩)
      | (refine LoopW.unroll mixed (Plain.ret _ _ _) rfl (CW.run 300 rfl ?_); simp [*, wA, wB, wC, wD, Try.ntmps16, Try.results16])
    all_goals
      first
        | (refine Sub.of_eq ?_ rfl; simp [takeQ, hk]; done)
        | (exfalso; simp only [decide_eq_true_iff, decide_eq_false_iff_not] at *; omega)

end Go.Proofs.Ytipkcdjpaneimaa

