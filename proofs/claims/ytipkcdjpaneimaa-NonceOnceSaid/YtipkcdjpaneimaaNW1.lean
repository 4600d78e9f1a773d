/-
  LAYER 13: the walks of Start, known, Sound, Good, out and in, of the program and of the reference.
-/
import Derived.Test.YtipkcdjpaneimaaNTy
set_option linter.unusedSimpArgs false
set_option linter.unusedVariables false
namespace Go.Proofs.Ytipkcdjpaneimaa
open Go.AI Go.Nonce

abbrev int (n : Int) : AV := .d (.v (.int .i64 n))
abbrev bool (b : Bool) : AV := .d (.v (.bool b))
abbrev ouL (a b c d : Int) (x y z t : Bool) (m : Int) : AV := .agg [int a, int b, int c, int d, bool x, bool y, bool z, bool t, int m]
abbrev ouV (o : Ou) : AV := ouL o.l0 o.l1 o.l2 o.l3 o.o0 o.o1 o.o2 o.o3 o.m
abbrev nnL (a b c d m : Int) : AV := .agg [int a, int b, int c, int d, int m]
abbrev nnV (i : Nn) : AV := nnL i.l0 i.l1 i.l2 i.l3 i.m
theorem mixed : Try.prog.follows .mixedOrders = true := by kernel_rfl

-- groyne/nonce.bounded
theorem bounded (n : Int) : CtP Try.prog 28 [int n] (int (bnd n)) := by
  refine CtP.of_body Try.func28 rfl mixed (by rw [Try.ntmps28]; simp) (CW.run 300 rfl ?_)
  simp [Try.ntmps28, Try.results28]
  refine Sub.of_eq ?_ rfl
  simp [bnd]; omega

-- groyne/nonce.Start
theorem start (n : Int) : CtP Try.prog 17 [int n] (.tup [ouV (startO n), nnV (startI n)]) := by
  refine CtP.of_body Try.func17 rfl mixed (by rw [Try.ntmps17]; simp) (CW.run 300 rfl ?_)
  simp [Try.ntmps17, Try.results17]
  refine CW.call (bounded _) (fun _ _ => by simp [Try.call28]) rfl rfl rfl (by first | exact .inl rfl | exact .inr ⟨_, _, rfl, by simp []⟩) rfl rfl rfl (CW.runOps 300 rfl ?_)
  simp [Try.ntmps17, Try.results17]
  exact Sub.of_eq rfl rfl

-- groyne/groyneref13.Start
theorem startR (n : Int) : CtP Try.prog 18 [int n] (.tup [ouV (startO n), nnV (startI n)]) := by
  refine CtP.of_body Try.func18 rfl mixed (by rw [Try.ntmps18]; simp) (CW.run 300 rfl ?_)
  simp [Try.ntmps18, Try.results18]
  refine Sub.of_eq ?_ rfl
  simp [startO, startI, bnd]
  omega

-- groyne/nonce.known
theorem known (k : Int) : CtP Try.prog 24 [int k] (bool (kindB k)) := by
  refine CtP.of_body Try.func24 rfl mixed (by rw [Try.ntmps24]; simp) (CW.run 300 rfl ?_)
  simp [Try.ntmps24, Try.results24]
  refine run_gd_split (fun h => ?_) (fun h => ?_)
  all_goals
    simp [h, Try.ntmps24, Try.results24]
    refine Sub.of_eq ?_ rfl
    simp only [kindB, h]; rfl

theorem near_eq (x m : Int) (hm : 1 ≤ m) : ((if 0 < (if m < x then m else x) then (if m < x then m else x) else 0) = x) ↔ (0 ≤ x ∧ x ≤ m) := by
  by_cases h : m < x <;> simp [h] <;> (try omega)

-- groyne/nonce.Sound
theorem sound (a b c d m : Int) : CtP Try.prog 21 [nnL a b c d m] (bool (soundB ⟨a, b, c, d, m⟩)) := by
  refine CtP.of_body Try.func21 rfl mixed (by rw [Try.ntmps21]; simp) (CW.run 300 rfl ?_)
  simp [Try.ntmps21, Try.results21]
  refine LoopW.unroll mixed (Plain.ret _ _ _) rfl (CW.run 300 rfl ?_)
  simp
  refine ⟨by decide, ?_⟩
  refine LoopW.unroll mixed (Plain.ret _ _ _) rfl (CW.run 300 rfl ?_)
  simp
  refine ⟨by decide, ?_⟩
  refine LoopW.unroll mixed (Plain.ret _ _ _) rfl (CW.run 300 rfl ?_)
  simp
  refine ⟨by decide, ?_⟩
  refine LoopW.unroll mixed (Plain.ret _ _ _) rfl (CW.run 300 rfl ?_)
  simp
  refine ⟨by decide, ?_⟩
  refine LoopW.unroll mixed (Plain.ret _ _ _) rfl (CW.run 300 rfl ?_)
  simp
  refine run_gd_split (fun h => ?_) (fun h => ?_)
  · simp [h]
    refine CW.call (bounded _) (fun _ _ => by simp [Try.call28]) rfl rfl rfl (by first | exact .inl rfl | exact .inr ⟨_, _, rfl, by simp [h]⟩) rfl rfl rfl (CW.runOps 300 rfl ?_)
    simp [h, Try.ntmps21, Try.results21]
    refine ⟨by decide, Sub.of_eq ?_ rfl⟩
    simp only [AV.d.injEq, D.v.injEq, Value.bool.injEq]
    rw [Bool.eq_iff_iff]
    simp only [Bool.and_eq_true, decide_eq_true_eq, soundB, bnd] at h ⊢
    obtain ⟨h0, h1, h2, h3⟩ := h
    refine Iff.trans decide_eq_true_iff ?_
    constructor
    · intro hm0
      have hm : 1 ≤ m ∧ m ≤ 2147483647 := by omega
      have := (near_eq _ _ hm.1).1 h0; have := (near_eq _ _ hm.1).1 h1; have := (near_eq _ _ hm.1).1 h2; have := (near_eq _ _ hm.1).1 h3
      omega
    · intro hm; omega
  · simp [h, Try.ntmps21, Try.results21]
    refine ⟨by decide, Sub.of_eq ?_ rfl⟩
    simp only [AV.d.injEq, D.v.injEq, Value.bool.injEq]
    have hs : soundB ⟨a, b, c, d, m⟩ = false := by
      rw [Bool.eq_false_iff]
      intro hs
      simp only [soundB, Bool.and_eq_true, decide_eq_true_eq] at hs
      obtain ⟨⟨⟨⟨⟨⟨⟨⟨⟨a1, a2⟩, a3⟩, a4⟩, a5⟩, a6⟩, a7⟩, a8⟩, a9⟩, a10⟩ := hs
      rw [Bool.eq_false_iff] at h
      apply h
      simp only [Bool.and_eq_true, decide_eq_true_eq]
      exact ⟨(near_eq _ _ a9).2 ⟨a1, a2⟩, (near_eq _ _ a9).2 ⟨a3, a4⟩, (near_eq _ _ a9).2 ⟨a5, a6⟩, (near_eq _ _ a9).2 ⟨a7, a8⟩⟩
    rw [hs]

-- groyne/groyneref13.Sound
theorem soundR (a b c d m : Int) : CtP Try.prog 22 [nnL a b c d m] (bool (soundB ⟨a, b, c, d, m⟩)) := by
  refine CtP.of_body Try.func22 rfl mixed (by rw [Try.ntmps22]; simp) (CW.run 300 rfl ?_)
  simp [Try.ntmps22, Try.results22]
  refine LoopW.unroll mixed (Plain.ret _ _ _) rfl (CW.run 300 rfl ?_)
  simp
  refine run_gd_split (fun hl0a => ?_) (fun hl0a => ?_)
  · simp [hl0a, Try.ntmps22, Try.results22]
    refine ⟨by decide, Sub.of_eq ?_ rfl⟩
    simp only [AV.d.injEq, D.v.injEq, Value.bool.injEq]
    rw [Bool.eq_iff_iff]
    simp [soundB] at *
    omega
  simp [hl0a, Try.ntmps22, Try.results22]
  refine ⟨by decide, ?_⟩
  refine run_br_split (fun hl0b => ?_) (fun hl0b => ?_)
  · simp [hl0b, Try.ntmps22, Try.results22]
    refine Sub.of_eq ?_ rfl
    simp only [AV.d.injEq, D.v.injEq, Value.bool.injEq]
    rw [Bool.eq_iff_iff]
    simp [soundB] at *
    omega
  simp
  refine LoopW.unroll mixed (Plain.ret _ _ _) rfl (CW.run 300 rfl ?_)
  simp
  refine run_gd_split (fun hl1a => ?_) (fun hl1a => ?_)
  · simp [hl1a, Try.ntmps22, Try.results22]
    refine ⟨by decide, Sub.of_eq ?_ rfl⟩
    simp only [AV.d.injEq, D.v.injEq, Value.bool.injEq]
    rw [Bool.eq_iff_iff]
    simp [soundB] at *
    omega
  simp [hl1a, Try.ntmps22, Try.results22]
  refine ⟨by decide, ?_⟩
  refine run_br_split (fun hl1b => ?_) (fun hl1b => ?_)
  · simp [hl1b, Try.ntmps22, Try.results22]
    refine Sub.of_eq ?_ rfl
    simp only [AV.d.injEq, D.v.injEq, Value.bool.injEq]
    rw [Bool.eq_iff_iff]
    simp [soundB] at *
    omega
  simp
  refine LoopW.unroll mixed (Plain.ret _ _ _) rfl (CW.run 300 rfl ?_)
  simp
  refine run_gd_split (fun hl2a => ?_) (fun hl2a => ?_)
  · simp [hl2a, Try.ntmps22, Try.results22]
    refine ⟨by decide, Sub.of_eq ?_ rfl⟩
    simp only [AV.d.injEq, D.v.injEq, Value.bool.injEq]
    rw [Bool.eq_iff_iff]
    simp [soundB] at *
    omega
  simp [hl2a, Try.ntmps22, Try.results22]
  refine ⟨by decide, ?_⟩
  refine run_br_split (fun hl2b => ?_) (fun hl2b => ?_)
  · simp [hl2b, Try.ntmps22, Try.results22]
    refine Sub.of_eq ?_ rfl
    simp only [AV.d.injEq, D.v.injEq, Value.bool.injEq]
    rw [Bool.eq_iff_iff]
    simp [soundB] at *
    omega
  simp
  refine LoopW.unroll mixed (Plain.ret _ _ _) rfl (CW.run 300 rfl ?_)
  simp
  refine run_gd_split (fun hl3a => ?_) (fun hl3a => ?_)
  · simp [hl3a, Try.ntmps22, Try.results22]
    refine ⟨by decide, Sub.of_eq ?_ rfl⟩
    simp only [AV.d.injEq, D.v.injEq, Value.bool.injEq]
    rw [Bool.eq_iff_iff]
    simp [soundB] at *
    omega
  simp [hl3a, Try.ntmps22, Try.results22]
  refine ⟨by decide, ?_⟩
  refine run_br_split (fun hl3b => ?_) (fun hl3b => ?_)
  · simp [hl3b, Try.ntmps22, Try.results22]
    refine Sub.of_eq ?_ rfl
    simp only [AV.d.injEq, D.v.injEq, Value.bool.injEq]
    rw [Bool.eq_iff_iff]
    simp [soundB] at *
    omega
  simp
  refine LoopW.unroll mixed (Plain.ret _ _ _) rfl (CW.run 300 rfl ?_)
  simp
  refine run_gd_split (fun h => ?_) (fun h => ?_)
  all_goals
    simp [h, Try.ntmps22, Try.results22]
    refine Sub.of_eq ?_ rfl
    simp only [AV.d.injEq, D.v.injEq, Value.bool.injEq]
    rw [Bool.eq_iff_iff]
    simp [soundB] at *
    omega


-- groyne/nonce.Good
theorem good (a b c d : Int) (x y z t : Bool) (m : Int) : CtP Try.prog 19 [ouL a b c d x y z t m] (bool (goodB ⟨a, b, c, d, x, y, z, t, m⟩)) := by
  refine CtP.of_body Try.func19 rfl mixed (by rw [Try.ntmps19]; simp) (CW.run 300 rfl ?_)
  simp [Try.ntmps19, Try.results19]
  repeat' first
    | (refine run_gd_split (fun h => ?_) (fun h => ?_) <;> simp [h, Try.ntmps19, Try.results19])
    | (refine run_br_split (fun h => ?_) (fun h => ?_) <;> simp [h, Try.ntmps19, Try.results19])
    | (refine ⟨by decide +kernel, ?_⟩)
    | (refine LoopW.unroll mixed (Plain.ret _ _ _) rfl (CW.run 300 rfl ?_); simp [*, Try.ntmps19, Try.results19])
    | (refine CW.call (sound _ _ _ _ _) (fun _ _ => by simp [Try.call21]) rfl rfl rfl (by first | exact .inl rfl | exact .inr ⟨_, _, rfl, by simp [*]⟩) rfl rfl rfl (CW.runOps 300 rfl ?_); simp [*, Try.ntmps19, Try.results19])
  all_goals
    refine Sub.of_eq ?_ rfl
    simp [goodB, Ou.toI, *]

theorem goodB_no {a b c d : Int} {x y z t : Bool} {m : Int} (h : x = true ∧ a < 1 ∨ y = true ∧ b < 1 ∨ z = true ∧ c < 1 ∨ t = true ∧ d < 1) : goodB ⟨a, b, c, d, x, y, z, t, m⟩ = false := by
  rw [Bool.eq_false_iff]
  intro hg
  simp only [goodB, Ou.toI, soundB_mk, Bool.and_eq_true, Bool.not_eq_true', Bool.and_eq_false_iff, decide_eq_false_iff_not] at hg
  obtain ⟨⟨⟨⟨g0, g1⟩, g2⟩, g3⟩, gs⟩ := hg
  rcases h with ⟨rfl, h⟩ | ⟨rfl, h⟩ | ⟨rfl, h⟩ | ⟨rfl, h⟩
  · rcases g0 with g | g
    · cases g
    · omega
  · rcases g1 with g | g
    · cases g
    · omega
  · rcases g2 with g | g
    · cases g
    · omega
  · rcases g3 with g | g
    · cases g
    · omega

theorem goodB_is {a b c d : Int} {x y z t : Bool} {m : Int} (h1 : x = true → 1 ≤ a) (h2 : y = true → 1 ≤ b) (h3 : z = true → 1 ≤ c) (h4 : t = true → 1 ≤ d) : goodB ⟨a, b, c, d, x, y, z, t, m⟩ = soundB ⟨a, b, c, d, m⟩ := by
  have e : ∀ (x : Bool) (a : Int), (x = true → 1 ≤ a) → (!(x && decide (a = 0))) = true := by
    intro x a h
    cases x
    · rfl
    · have := h rfl
      simp; omega
  simp only [goodB, Ou.toI, e x a h1, e y b h2, e z c h3, e t d h4, Bool.true_and]

-- groyne/groyneref13.Good
theorem goodR (a b c d : Int) (x y z t : Bool) (m : Int) : CtP Try.prog 20 [ouL a b c d x y z t m] (bool (goodB ⟨a, b, c, d, x, y, z, t, m⟩)) := by
  refine CtP.of_body Try.func20 rfl mixed (by rw [Try.ntmps20]; simp) (CW.run 300 rfl ?_)
  simp [Try.ntmps20, Try.results20]
  repeat' first
    | (refine run_gd_split (fun h => ?_) (fun h => ?_) <;> simp [h, Try.ntmps20, Try.results20])
    | (refine run_br_split (fun h => ?_) (fun h => ?_) <;> simp [h, Try.ntmps20, Try.results20])
    | (refine ⟨by decide +kernel, ?_⟩)
    | (refine LoopW.unroll mixed (Plain.ret _ _ _) rfl (CW.run 300 rfl ?_); simp [*, Try.ntmps20, Try.results20])
    | (refine CW.call (soundR _ _ _ _ _) (fun _ _ => by simp [Try.call22]) rfl rfl rfl (by first | exact .inl rfl | exact .inr ⟨_, _, rfl, by simp [*]⟩) rfl rfl rfl (CW.runOps 300 rfl ?_); simp [*, Try.ntmps20, Try.results20])
  all_goals
    refine Sub.of_eq ?_ rfl
    simp only [AV.d.injEq, D.v.injEq, Value.bool.injEq]
    try simp only [decide_eq_true_eq, decide_eq_false_iff_not, Int.not_lt] at *
    first
      | (rw [goodB_no]; simp [*]; done)
      | (rw [goodB_is] <;> simp [*])

end Go.Proofs.Ytipkcdjpaneimaa

