/-
  LAYER 13: the walk of NonceOnce: it answers true, whatever it is given.
-/
import Derived.Test.YtipkcdjpaneimaaNW3
import Derived.Test.YtipkcdjpaneimaaNW1
import Derived.Test.YtipkcdjpaneimaaNW2
import Derived.Test.YtipkcdjpaneimaaAi4
set_option linter.unusedSimpArgs false
set_option linter.unusedVariables false
namespace Go.Proofs.Ytipkcdjpaneimaa
open Go.AI Go.Nonce
set_option maxRecDepth 20000
set_option maxHeartbeats 4000000

abbrev actC (a : Int × Int × Int) : List D := [.v (.int .i64 a.1), .v (.int .i64 a.2.1), .v (.int .i64 a.2.2)]

def Inv (l0 l1 l2 l3 : Int) (x0 x1 x2 x3 : Bool) (t0 t1 t2 t3 M : Int) : Prop :=
  (x0 = true → 1 ≤ l0) ∧ (x1 = true → 1 ≤ l1) ∧ (x2 = true → 1 ≤ l2) ∧ (x3 = true → 1 ≤ l3) ∧
  (0 ≤ t0 ∧ t0 ≤ l0 ∧ l0 ≤ M) ∧ (0 ≤ t1 ∧ t1 ≤ l1 ∧ l1 ≤ M) ∧ (0 ≤ t2 ∧ t2 ≤ l2 ∧ l2 ≤ M) ∧ (0 ≤ t3 ∧ t3 ≤ l3 ∧ l3 ≤ M) ∧ 1 ≤ M ∧ M ≤ 2147483647

theorem Inv.good {l0 l1 l2 l3 : Int} {x0 x1 x2 x3 : Bool} {t0 t1 t2 t3 M : Int} (h : Inv l0 l1 l2 l3 x0 x1 x2 x3 t0 t1 t2 t3 M) : goodB ⟨l0, l1, l2, l3, x0, x1, x2, x3, M⟩ = true := by
  obtain ⟨h0, h1, h2, h3, h4⟩ := h
  rw [goodB_is h0 h1 h2 h3, soundB_mk]; omega

theorem Inv.sound {l0 l1 l2 l3 : Int} {x0 x1 x2 x3 : Bool} {t0 t1 t2 t3 M : Int} (h : Inv l0 l1 l2 l3 x0 x1 x2 x3 t0 t1 t2 t3 M) : soundB ⟨t0, t1, t2, t3, M⟩ = true := by
  obtain ⟨h0, h1, h2, h3, h4⟩ := h
  rw [soundB_mk]; omega

theorem bnd_is' (m : Int) : (if 1 < if 2147483647 < m then 2147483647 else m then if 2147483647 < m then 2147483647 else m else 1) = bnd m := by
  simp only [bnd]; omega

structure SS (n : Nat) (M : Int) where
  (k : Nat) (l0 l1 l2 l3 : Int) (x0 x1 x2 x3 : Bool) (t0 t1 t2 t3 : Int)
  hk : k ≤ n
  h : Inv l0 l1 l2 l3 x0 x1 x2 x3 t0 t1 t2 t3 M

-- groyne/groynelaw13.NonceOnce
theorem nonceOnce (m : Int) (l : List (Int × Int × Int)) : CtP Try.prog 4 [int m, .d (.ro false (l.map actC))] (bool true) := by
  refine CtP.of_body Try.func4 rfl mixed (by rw [Try.ntmps4]; simp) (CW.run 500 rfl ?_)
  simp [Try.ntmps4, Try.results4]
  refine CW.call (awake) (fun _ _ => by simp [Try.call8]) rfl rfl rfl (by first | exact .inl rfl | exact .inr ⟨_, _, rfl, by simp []⟩) rfl rfl rfl (CW.runOps 300 rfl ?_)
  simp [Try.ntmps4, Try.results4]
  refine run_br_split (fun h => ?_) (fun h => ?_)
  · simp [Try.ntmps4, Try.results4]
    exact Sub.of_eq rfl rfl
  simp only [decide_eq_false_iff_not] at h
  simp [Try.ntmps4, Try.results4]
  refine CW.call (start _) (fun _ _ => by simp [Try.call17]) rfl rfl rfl (by first | exact .inl rfl | exact .inr ⟨_, _, rfl, by simp []⟩) rfl rfl rfl (CW.runOps 300 rfl ?_)
  simp [Try.ntmps4, Try.results4]
  simp only [bnd_is', startO, startI]
  have hb := bnd_ok m
  generalize bnd m = M at hb ⊢
  refine LoopW.of mixed (Plain.ret _ _ _) rfl (ι := SS l.length M)
    (fun s => ⟨[(9, int s.k), (8, .ptr 1024 0), (7, .ptr 768 0), (6, .ptr 704 0), (5, bool true), (1, .d (.ro false (l.map actC)))], [(1024, some (.cells [int s.t0, int s.t1, int s.t2, int s.t3] 22)), (768, some (.cells [int s.t0, int s.t1, int s.t2, int s.t3, int M] 40)), (704, some (.cells [int s.l0, int s.l1, int s.l2, int s.l3, bool s.x0, bool s.x1, bool s.x2, bool s.x3, int M] 29))], 1088⟩)
    (fun s => l.length - s.k) ?_ ⟨0, 0, 0, 0, 0, false, false, false, false, 0, 0, 0, 0, by omega, by simp [Inv]; omega⟩ (Rel.reset' (by simp [resT, bdA]) (by simp [resM, bdB, bdA.bdL, bdA]))
  rintro ⟨k, l0, l1, l2, l3, x0, x1, x2, x3, t0, t1, t2, t3, hk, hi⟩ B hB
  have hg := hi.good
  have hs := hi.sound
  obtain ⟨i0, i1, i2, i3, ⟨a0, b0, c0⟩, ⟨a1, b1, c1⟩, ⟨a2, b2, c2⟩, ⟨a3, b3, c3⟩, M1, M2⟩ := hi
  refine CW.run 300 rfl ?_
  simp [Try.ntmps4, Try.results4]
  refine run_br_split (fun h => ?_) (fun h => ?_)
  · have hk : k < l.length := by simpa using h
    have hr : l[k]? = some l[k] := List.getElem?_eq_getElem hk
    generalize l[k] = y at hr
    obtain ⟨u, v, n⟩ := y
    have hw : IntKind.wrap .i64 ((k : Int) + 1) = k + 1 := wrap_i64 (by omega) (by omega)
    have hv := and3 v
    simp only [h]
    simp [hr, Try.ntmps4, Try.results4]
    generalize andK .i64 v 3 = q at hv ⊢
    rcases hv with rfl | rfl | rfl | rfl
    · refine run_br_split (fun hu => ?_) (fun hu => ?_)
      · cases x0 with
        | true =>
          have e2 : push ⟨l0, l1, l2, l3, true, x1, x2, x3, M⟩ 0 = (⟨l0, l1, l2, l3, true, x1, x2, x3, M⟩, 0, 15) := by simp [push, outF, hg, pushQ, Ou.open', Ou.last, kindB]
          have hz : ¬ (M < l0) := by omega
          have hy : ¬ (l0 < t0) := by omega
          simp only [hu]
          simp [Try.ntmps4, Try.results4]
          refine CW.call (push_w _ _ _ _ _ _ _ _ _ _) (fun _ _ => by simp [Try.call9]) rfl rfl rfl (by first | exact .inl rfl | exact .inr ⟨_, _, rfl, by simp []⟩) rfl rfl rfl (CW.runOps 300 rfl ?_)
          simp [e2, hz, Try.ntmps4, Try.results4]
          refine ⟨by decide +kernel, ?_⟩
          refine CW.call (good _ _ _ _ _ _ _ _ _) (fun _ _ => by simp [Try.call19]) rfl rfl rfl (by first | exact .inl rfl | exact .inr ⟨_, _, rfl, by simp []⟩) rfl rfl rfl (CW.runOps 300 rfl ?_)
          simp [hg, Try.ntmps4, Try.results4]
          refine CW.call (sound _ _ _ _ _) (fun _ _ => by simp [Try.call21]) rfl rfl rfl (by first | exact .inl rfl | exact .inr ⟨_, _, rfl, by simp []⟩) rfl rfl rfl (CW.runOps 300 rfl ?_)
          simp [hs, hy, hw, Try.ntmps4, Try.results4]
          refine ⟨by decide +kernel, ?_⟩
          exact hB _ ⟨k + 1, l0, l1, l2, l3, true, x1, x2, x3, t0, t1, t2, t3, by omega, ⟨by first | exact i0 | (intro _; omega) | simp, by first | exact i1 | (intro _; omega) | simp, by first | exact i2 | (intro _; omega) | simp, by first | exact i3 | (intro _; omega) | simp, by omega⟩⟩ (Rel.reset' (by simp [resT, bdA, hw]) (by simp [resM, bdB, bdA.bdL, bdA])) (by show l.length - (k + 1) < l.length - k; omega)
        | false =>
          by_cases hm : l0 = M
          · have e2 : push ⟨l0, l1, l2, l3, false, x1, x2, x3, M⟩ 0 = (⟨l0, l1, l2, l3, false, x1, x2, x3, M⟩, 0, 14) := by
              simp [push, outF, hg, pushQ, Ou.open', Ou.last, kindB]
              first | exact fun h => absurd hm h | simp [hm]
            have hz : ¬ (M < l0) := by omega
            have hy : ¬ (l0 < t0) := by omega
            simp only [hu]
            simp [Try.ntmps4, Try.results4]
            refine CW.call (push_w _ _ _ _ _ _ _ _ _ _) (fun _ _ => by simp [Try.call9]) rfl rfl rfl (by first | exact .inl rfl | exact .inr ⟨_, _, rfl, by simp []⟩) rfl rfl rfl (CW.runOps 300 rfl ?_)
            simp [e2, hz, Try.ntmps4, Try.results4]
            refine ⟨by decide +kernel, ?_⟩
            refine CW.call (good _ _ _ _ _ _ _ _ _) (fun _ _ => by simp [Try.call19]) rfl rfl rfl (by first | exact .inl rfl | exact .inr ⟨_, _, rfl, by simp []⟩) rfl rfl rfl (CW.runOps 300 rfl ?_)
            simp [hg, Try.ntmps4, Try.results4]
            refine CW.call (sound _ _ _ _ _) (fun _ _ => by simp [Try.call21]) rfl rfl rfl (by first | exact .inl rfl | exact .inr ⟨_, _, rfl, by simp []⟩) rfl rfl rfl (CW.runOps 300 rfl ?_)
            simp [hs, hy, hw, Try.ntmps4, Try.results4]
            refine ⟨by decide +kernel, ?_⟩
            exact hB _ ⟨k + 1, l0, l1, l2, l3, false, x1, x2, x3, t0, t1, t2, t3, by omega, ⟨by first | exact i0 | (intro _; omega) | simp, by first | exact i1 | (intro _; omega) | simp, by first | exact i2 | (intro _; omega) | simp, by first | exact i3 | (intro _; omega) | simp, by omega⟩⟩ (Rel.reset' (by simp [resT, bdA, hw]) (by simp [resM, bdB, bdA.bdL, bdA])) (by show l.length - (k + 1) < l.length - k; omega)
          · have e2 : push ⟨l0, l1, l2, l3, false, x1, x2, x3, M⟩ 0 = (⟨l0 + 1, l1, l2, l3, true, x1, x2, x3, M⟩, l0 + 1, 0) := by simp [push, outF, hg, pushQ, Ou.open', Ou.last, Ou.set, kindB, hm]
            have hz : ¬ (M < l0 + 1) := by omega
            have hy : ¬ (l0 + 1 < t0) := by omega
            have hq : IntKind.wrap .i64 (l0 + 1) = l0 + 1 := wrap_i64 (by omega) (by omega)
            have hg' : goodB ⟨l0 + 1, l1, l2, l3, true, x1, x2, x3, M⟩ = true := by
              rw [goodB_is (by first | (intro _; omega) | exact i0 | simp) (by first | (intro _; omega) | exact i1 | simp) (by first | (intro _; omega) | exact i2 | simp) (by first | (intro _; omega) | exact i3 | simp), soundB_mk]; omega
            simp only [hu]
            simp [Try.ntmps4, Try.results4]
            refine CW.call (push_w _ _ _ _ _ _ _ _ _ _) (fun _ _ => by simp [Try.call9]) rfl rfl rfl (by first | exact .inl rfl | exact .inr ⟨_, _, rfl, by simp []⟩) rfl rfl rfl (CW.runOps 300 rfl ?_)
            simp [e2, hz, hq, Try.ntmps4, Try.results4]
            refine ⟨by decide +kernel, ?_⟩
            refine CW.call (good _ _ _ _ _ _ _ _ _) (fun _ _ => by simp [Try.call19]) rfl rfl rfl (by first | exact .inl rfl | exact .inr ⟨_, _, rfl, by simp []⟩) rfl rfl rfl (CW.runOps 300 rfl ?_)
            simp [hg', Try.ntmps4, Try.results4]
            refine CW.call (sound _ _ _ _ _) (fun _ _ => by simp [Try.call21]) rfl rfl rfl (by first | exact .inl rfl | exact .inr ⟨_, _, rfl, by simp []⟩) rfl rfl rfl (CW.runOps 300 rfl ?_)
            simp [hs, hy, hw, Try.ntmps4, Try.results4]
            refine ⟨by decide +kernel, ?_⟩
            exact hB _ ⟨k + 1, l0 + 1, l1, l2, l3, true, x1, x2, x3, t0, t1, t2, t3, by omega, ⟨by first | exact i0 | (intro _; omega) | simp, by first | exact i1 | (intro _; omega) | simp, by first | exact i2 | (intro _; omega) | simp, by first | exact i3 | (intro _; omega) | simp, by omega⟩⟩ (Rel.reset' (by simp [resT, bdA, hw]) (by simp [resM, bdB, bdA.bdL, bdA])) (by show l.length - (k + 1) < l.length - k; omega)
      · simp only [hu]
        simp [Try.ntmps4, Try.results4]
        refine run_br_split (fun hu1 => ?_) (fun hu1 => ?_)
        · by_cases hd : x0 = true ∧ n = l0
          · obtain ⟨rfl, hd2⟩ := hd
            replace hd2 := hd2.symm
            subst hd2
            have e2 : done ⟨l0, l1, l2, l3, true, x1, x2, x3, M⟩ 0 l0 = (⟨l0, l1, l2, l3, false, x1, x2, x3, M⟩, 0) := by simp [done, outF, hg, doneQ, Ou.open', Ou.last, Ou.set, kindB]
            have hy : ¬ (l0 < t0) := by omega
            have hg' : goodB ⟨l0, l1, l2, l3, false, x1, x2, x3, M⟩ = true := by
              rw [goodB_is (by first | (intro _; omega) | exact i0 | simp) (by first | (intro _; omega) | exact i1 | simp) (by first | (intro _; omega) | exact i2 | simp) (by first | (intro _; omega) | exact i3 | simp), soundB_mk]; omega
            simp only [hu1]
            simp [Try.ntmps4, Try.results4]
            refine CW.call (done_w _ _ _ _ _ _ _ _ _ _ _) (fun _ _ => by simp [Try.call12]) rfl rfl rfl (by first | exact .inl rfl | exact .inr ⟨_, _, rfl, by simp []⟩) rfl rfl rfl (CW.runOps 300 rfl ?_)
            simp [e2, Try.ntmps4, Try.results4]
            refine ⟨by decide +kernel, ?_⟩
            refine CW.call (good _ _ _ _ _ _ _ _ _) (fun _ _ => by simp [Try.call19]) rfl rfl rfl (by first | exact .inl rfl | exact .inr ⟨_, _, rfl, by simp []⟩) rfl rfl rfl (CW.runOps 300 rfl ?_)
            simp [hg', Try.ntmps4, Try.results4]
            refine CW.call (sound _ _ _ _ _) (fun _ _ => by simp [Try.call21]) rfl rfl rfl (by first | exact .inl rfl | exact .inr ⟨_, _, rfl, by simp []⟩) rfl rfl rfl (CW.runOps 300 rfl ?_)
            simp [hs, hy, hw, Try.ntmps4, Try.results4]
            refine ⟨by decide +kernel, ?_⟩
            exact hB _ ⟨k + 1, l0, l1, l2, l3, false, x1, x2, x3, t0, t1, t2, t3, by omega, ⟨by first | exact i0 | (intro _; omega) | simp, by first | exact i1 | (intro _; omega) | simp, by first | exact i2 | (intro _; omega) | simp, by first | exact i3 | (intro _; omega) | simp, by omega⟩⟩ (Rel.reset' (by simp [resT, bdA, hw]) (by simp [resM, bdB, bdA.bdL, bdA])) (by show l.length - (k + 1) < l.length - k; omega)
          · have e2 : done ⟨l0, l1, l2, l3, x0, x1, x2, x3, M⟩ 0 n = (⟨l0, l1, l2, l3, x0, x1, x2, x3, M⟩, 11) := by
              have hd' : x0 = false ∨ ¬ (n = l0) := by
                cases x0 <;> simp_all
              simp [done, outF, hg, doneQ, Ou.open', Ou.last, Ou.set, kindB, hd']
            have hy : ¬ (l0 < t0) := by omega
            simp only [hu1]
            simp [Try.ntmps4, Try.results4]
            refine CW.call (done_w _ _ _ _ _ _ _ _ _ _ _) (fun _ _ => by simp [Try.call12]) rfl rfl rfl (by first | exact .inl rfl | exact .inr ⟨_, _, rfl, by simp []⟩) rfl rfl rfl (CW.runOps 300 rfl ?_)
            simp [e2, Try.ntmps4, Try.results4]
            refine ⟨by decide +kernel, ?_⟩
            refine CW.call (good _ _ _ _ _ _ _ _ _) (fun _ _ => by simp [Try.call19]) rfl rfl rfl (by first | exact .inl rfl | exact .inr ⟨_, _, rfl, by simp []⟩) rfl rfl rfl (CW.runOps 300 rfl ?_)
            simp [hg, Try.ntmps4, Try.results4]
            refine CW.call (sound _ _ _ _ _) (fun _ _ => by simp [Try.call21]) rfl rfl rfl (by first | exact .inl rfl | exact .inr ⟨_, _, rfl, by simp []⟩) rfl rfl rfl (CW.runOps 300 rfl ?_)
            simp [hs, hy, hw, Try.ntmps4, Try.results4]
            refine ⟨by decide +kernel, ?_⟩
            exact hB _ ⟨k + 1, l0, l1, l2, l3, x0, x1, x2, x3, t0, t1, t2, t3, by omega, ⟨by first | exact i0 | (intro _; omega) | simp, by first | exact i1 | (intro _; omega) | simp, by first | exact i2 | (intro _; omega) | simp, by first | exact i3 | (intro _; omega) | simp, by omega⟩⟩ (Rel.reset' (by simp [resT, bdA, hw]) (by simp [resM, bdB, bdA.bdL, bdA])) (by show l.length - (k + 1) < l.length - k; omega)
        · simp only [hu1]
          simp [Try.ntmps4, Try.results4]
          refine ⟨by decide +kernel, ?_⟩
          refine run_br_split (fun hn => ?_) (fun hn => ?_)
          · simp only [hn]
            simp [hw, Try.ntmps4, Try.results4]
            exact hB _ ⟨k + 1, l0, l1, l2, l3, x0, x1, x2, x3, t0, t1, t2, t3, by omega, ⟨by first | exact i0 | (intro _; omega) | simp, by first | exact i1 | (intro _; omega) | simp, by first | exact i2 | (intro _; omega) | simp, by first | exact i3 | (intro _; omega) | simp, by omega⟩⟩ (Rel.reset' (by simp [resT, bdA, hw]) (by simp [resM, bdB, bdA.bdL, bdA])) (by show l.length - (k + 1) < l.length - k; omega)
          simp only [hn]
          have hn' : n ≤ l0 := by simp at hn; omega
          simp [Try.ntmps4, Try.results4]
          have hy : ¬ (l0 < t0) := by omega
          refine CW.call (take_w _ _ _ _ _ _ _) (fun _ _ => by simp [Try.call14]) rfl rfl rfl (by first | exact .inl rfl | exact .inr ⟨_, _, rfl, by simp []⟩) rfl rfl rfl (CW.runOps 300 rfl ?_)
          by_cases h1 : n = t0 + 1
          · subst h1
            have e3 : take ⟨t0, t1, t2, t3, M⟩ 0 (t0 + 1) = (⟨t0 + 1, t1, t2, t3, M⟩, 0) := by
              have h1 : ¬ (t0 + 1 = t0) := by omega
              have h2 : ¬ (M < t0 + 1) := by omega
              simp [take, inF, hs, takeQ, Nn.last, Nn.set, kindB, h1, h2]
            have hq : IntKind.wrap .i64 (t0 + 1) = t0 + 1 := wrap_i64 (by omega) (by omega)
            have hs' : soundB ⟨t0 + 1, t1, t2, t3, M⟩ = true := by rw [soundB_mk]; omega
            have hy' : ¬ (l0 < t0 + 1) := by omega
            simp [e3, hq, Try.ntmps4, Try.results4]
            refine ⟨by decide +kernel, ?_⟩
            refine CW.call (good _ _ _ _ _ _ _ _ _) (fun _ _ => by simp [Try.call19]) rfl rfl rfl (by first | exact .inl rfl | exact .inr ⟨_, _, rfl, by simp []⟩) rfl rfl rfl (CW.runOps 300 rfl ?_)
            simp [hg, Try.ntmps4, Try.results4]
            refine CW.call (sound _ _ _ _ _) (fun _ _ => by simp [Try.call21]) rfl rfl rfl (by first | exact .inl rfl | exact .inr ⟨_, _, rfl, by simp []⟩) rfl rfl rfl (CW.runOps 300 rfl ?_)
            simp [hs', hy', hw, Try.ntmps4, Try.results4]
            refine ⟨by decide +kernel, ?_⟩
            exact hB _ ⟨k + 1, l0, l1, l2, l3, x0, x1, x2, x3, t0 + 1, t1, t2, t3, by omega, ⟨by first | exact i0 | (intro _; omega) | simp, by first | exact i1 | (intro _; omega) | simp, by first | exact i2 | (intro _; omega) | simp, by first | exact i3 | (intro _; omega) | simp, by omega⟩⟩ (Rel.reset' (by simp [resT, bdA, hw]) (by simp [resM, bdB, bdA.bdL, bdA])) (by show l.length - (k + 1) < l.length - k; omega)
          · have e3 : (take ⟨t0, t1, t2, t3, M⟩ 0 n).1 = ⟨t0, t1, t2, t3, M⟩ ∧ (take ⟨t0, t1, t2, t3, M⟩ 0 n).2 ≠ 0 := by
              simp only [take, inF, hs, takeQ, Nn.last, kindB]
              simp
              (repeat' split) <;> first | (simp; done) | (exfalso; omega)
            obtain ⟨e3, e4⟩ := e3
            generalize (take ⟨t0, t1, t2, t3, M⟩ 0 n).2 = e at e4
            simp [e3, e4, Try.ntmps4, Try.results4]
            refine ⟨by decide +kernel, ?_⟩
            refine CW.call (good _ _ _ _ _ _ _ _ _) (fun _ _ => by simp [Try.call19]) rfl rfl rfl (by first | exact .inl rfl | exact .inr ⟨_, _, rfl, by simp []⟩) rfl rfl rfl (CW.runOps 300 rfl ?_)
            simp [hg, Try.ntmps4, Try.results4]
            refine CW.call (sound _ _ _ _ _) (fun _ _ => by simp [Try.call21]) rfl rfl rfl (by first | exact .inl rfl | exact .inr ⟨_, _, rfl, by simp []⟩) rfl rfl rfl (CW.runOps 300 rfl ?_)
            simp [hs, hy, hw, Try.ntmps4, Try.results4]
            refine ⟨by decide +kernel, ?_⟩
            exact hB _ ⟨k + 1, l0, l1, l2, l3, x0, x1, x2, x3, t0, t1, t2, t3, by omega, ⟨by first | exact i0 | (intro _; omega) | simp, by first | exact i1 | (intro _; omega) | simp, by first | exact i2 | (intro _; omega) | simp, by first | exact i3 | (intro _; omega) | simp, by omega⟩⟩ (Rel.reset' (by simp [resT, bdA, hw]) (by simp [resM, bdB, bdA.bdL, bdA])) (by show l.length - (k + 1) < l.length - k; omega)
    · refine run_br_split (fun hu => ?_) (fun hu => ?_)
      · cases x1 with
        | true =>
          have e2 : push ⟨l0, l1, l2, l3, x0, true, x2, x3, M⟩ 1 = (⟨l0, l1, l2, l3, x0, true, x2, x3, M⟩, 0, 15) := by simp [push, outF, hg, pushQ, Ou.open', Ou.last, kindB]
          have hz : ¬ (M < l1) := by omega
          have hy : ¬ (l1 < t1) := by omega
          simp only [hu]
          simp [Try.ntmps4, Try.results4]
          refine CW.call (push_w _ _ _ _ _ _ _ _ _ _) (fun _ _ => by simp [Try.call9]) rfl rfl rfl (by first | exact .inl rfl | exact .inr ⟨_, _, rfl, by simp []⟩) rfl rfl rfl (CW.runOps 300 rfl ?_)
          simp [e2, hz, Try.ntmps4, Try.results4]
          refine ⟨by decide +kernel, ?_⟩
          refine CW.call (good _ _ _ _ _ _ _ _ _) (fun _ _ => by simp [Try.call19]) rfl rfl rfl (by first | exact .inl rfl | exact .inr ⟨_, _, rfl, by simp []⟩) rfl rfl rfl (CW.runOps 300 rfl ?_)
          simp [hg, Try.ntmps4, Try.results4]
          refine CW.call (sound _ _ _ _ _) (fun _ _ => by simp [Try.call21]) rfl rfl rfl (by first | exact .inl rfl | exact .inr ⟨_, _, rfl, by simp []⟩) rfl rfl rfl (CW.runOps 300 rfl ?_)
          simp [hs, hy, hw, Try.ntmps4, Try.results4]
          refine ⟨by decide +kernel, ?_⟩
          exact hB _ ⟨k + 1, l0, l1, l2, l3, x0, true, x2, x3, t0, t1, t2, t3, by omega, ⟨by first | exact i0 | (intro _; omega) | simp, by first | exact i1 | (intro _; omega) | simp, by first | exact i2 | (intro _; omega) | simp, by first | exact i3 | (intro _; omega) | simp, by omega⟩⟩ (Rel.reset' (by simp [resT, bdA, hw]) (by simp [resM, bdB, bdA.bdL, bdA])) (by show l.length - (k + 1) < l.length - k; omega)
        | false =>
          by_cases hm : l1 = M
          · have e2 : push ⟨l0, l1, l2, l3, x0, false, x2, x3, M⟩ 1 = (⟨l0, l1, l2, l3, x0, false, x2, x3, M⟩, 0, 14) := by
              simp [push, outF, hg, pushQ, Ou.open', Ou.last, kindB]
              first | exact fun h => absurd hm h | simp [hm]
            have hz : ¬ (M < l1) := by omega
            have hy : ¬ (l1 < t1) := by omega
            simp only [hu]
            simp [Try.ntmps4, Try.results4]
            refine CW.call (push_w _ _ _ _ _ _ _ _ _ _) (fun _ _ => by simp [Try.call9]) rfl rfl rfl (by first | exact .inl rfl | exact .inr ⟨_, _, rfl, by simp []⟩) rfl rfl rfl (CW.runOps 300 rfl ?_)
            simp [e2, hz, Try.ntmps4, Try.results4]
            refine ⟨by decide +kernel, ?_⟩
            refine CW.call (good _ _ _ _ _ _ _ _ _) (fun _ _ => by simp [Try.call19]) rfl rfl rfl (by first | exact .inl rfl | exact .inr ⟨_, _, rfl, by simp []⟩) rfl rfl rfl (CW.runOps 300 rfl ?_)
            simp [hg, Try.ntmps4, Try.results4]
            refine CW.call (sound _ _ _ _ _) (fun _ _ => by simp [Try.call21]) rfl rfl rfl (by first | exact .inl rfl | exact .inr ⟨_, _, rfl, by simp []⟩) rfl rfl rfl (CW.runOps 300 rfl ?_)
            simp [hs, hy, hw, Try.ntmps4, Try.results4]
            refine ⟨by decide +kernel, ?_⟩
            exact hB _ ⟨k + 1, l0, l1, l2, l3, x0, false, x2, x3, t0, t1, t2, t3, by omega, ⟨by first | exact i0 | (intro _; omega) | simp, by first | exact i1 | (intro _; omega) | simp, by first | exact i2 | (intro _; omega) | simp, by first | exact i3 | (intro _; omega) | simp, by omega⟩⟩ (Rel.reset' (by simp [resT, bdA, hw]) (by simp [resM, bdB, bdA.bdL, bdA])) (by show l.length - (k + 1) < l.length - k; omega)
          · have e2 : push ⟨l0, l1, l2, l3, x0, false, x2, x3, M⟩ 1 = (⟨l0, l1 + 1, l2, l3, x0, true, x2, x3, M⟩, l1 + 1, 0) := by simp [push, outF, hg, pushQ, Ou.open', Ou.last, Ou.set, kindB, hm]
            have hz : ¬ (M < l1 + 1) := by omega
            have hy : ¬ (l1 + 1 < t1) := by omega
            have hq : IntKind.wrap .i64 (l1 + 1) = l1 + 1 := wrap_i64 (by omega) (by omega)
            have hg' : goodB ⟨l0, l1 + 1, l2, l3, x0, true, x2, x3, M⟩ = true := by
              rw [goodB_is (by first | (intro _; omega) | exact i0 | simp) (by first | (intro _; omega) | exact i1 | simp) (by first | (intro _; omega) | exact i2 | simp) (by first | (intro _; omega) | exact i3 | simp), soundB_mk]; omega
            simp only [hu]
            simp [Try.ntmps4, Try.results4]
            refine CW.call (push_w _ _ _ _ _ _ _ _ _ _) (fun _ _ => by simp [Try.call9]) rfl rfl rfl (by first | exact .inl rfl | exact .inr ⟨_, _, rfl, by simp []⟩) rfl rfl rfl (CW.runOps 300 rfl ?_)
            simp [e2, hz, hq, Try.ntmps4, Try.results4]
            refine ⟨by decide +kernel, ?_⟩
            refine CW.call (good _ _ _ _ _ _ _ _ _) (fun _ _ => by simp [Try.call19]) rfl rfl rfl (by first | exact .inl rfl | exact .inr ⟨_, _, rfl, by simp []⟩) rfl rfl rfl (CW.runOps 300 rfl ?_)
            simp [hg', Try.ntmps4, Try.results4]
            refine CW.call (sound _ _ _ _ _) (fun _ _ => by simp [Try.call21]) rfl rfl rfl (by first | exact .inl rfl | exact .inr ⟨_, _, rfl, by simp []⟩) rfl rfl rfl (CW.runOps 300 rfl ?_)
            simp [hs, hy, hw, Try.ntmps4, Try.results4]
            refine ⟨by decide +kernel, ?_⟩
            exact hB _ ⟨k + 1, l0, l1 + 1, l2, l3, x0, true, x2, x3, t0, t1, t2, t3, by omega, ⟨by first | exact i0 | (intro _; omega) | simp, by first | exact i1 | (intro _; omega) | simp, by first | exact i2 | (intro _; omega) | simp, by first | exact i3 | (intro _; omega) | simp, by omega⟩⟩ (Rel.reset' (by simp [resT, bdA, hw]) (by simp [resM, bdB, bdA.bdL, bdA])) (by show l.length - (k + 1) < l.length - k; omega)
      · simp only [hu]
        simp [Try.ntmps4, Try.results4]
        refine run_br_split (fun hu1 => ?_) (fun hu1 => ?_)
        · by_cases hd : x1 = true ∧ n = l1
          · obtain ⟨rfl, hd2⟩ := hd
            replace hd2 := hd2.symm
            subst hd2
            have e2 : done ⟨l0, l1, l2, l3, x0, true, x2, x3, M⟩ 1 l1 = (⟨l0, l1, l2, l3, x0, false, x2, x3, M⟩, 0) := by simp [done, outF, hg, doneQ, Ou.open', Ou.last, Ou.set, kindB]
            have hy : ¬ (l1 < t1) := by omega
            have hg' : goodB ⟨l0, l1, l2, l3, x0, false, x2, x3, M⟩ = true := by
              rw [goodB_is (by first | (intro _; omega) | exact i0 | simp) (by first | (intro _; omega) | exact i1 | simp) (by first | (intro _; omega) | exact i2 | simp) (by first | (intro _; omega) | exact i3 | simp), soundB_mk]; omega
            simp only [hu1]
            simp [Try.ntmps4, Try.results4]
            refine CW.call (done_w _ _ _ _ _ _ _ _ _ _ _) (fun _ _ => by simp [Try.call12]) rfl rfl rfl (by first | exact .inl rfl | exact .inr ⟨_, _, rfl, by simp []⟩) rfl rfl rfl (CW.runOps 300 rfl ?_)
            simp [e2, Try.ntmps4, Try.results4]
            refine ⟨by decide +kernel, ?_⟩
            refine CW.call (good _ _ _ _ _ _ _ _ _) (fun _ _ => by simp [Try.call19]) rfl rfl rfl (by first | exact .inl rfl | exact .inr ⟨_, _, rfl, by simp []⟩) rfl rfl rfl (CW.runOps 300 rfl ?_)
            simp [hg', Try.ntmps4, Try.results4]
            refine CW.call (sound _ _ _ _ _) (fun _ _ => by simp [Try.call21]) rfl rfl rfl (by first | exact .inl rfl | exact .inr ⟨_, _, rfl, by simp []⟩) rfl rfl rfl (CW.runOps 300 rfl ?_)
            simp [hs, hy, hw, Try.ntmps4, Try.results4]
            refine ⟨by decide +kernel, ?_⟩
            exact hB _ ⟨k + 1, l0, l1, l2, l3, x0, false, x2, x3, t0, t1, t2, t3, by omega, ⟨by first | exact i0 | (intro _; omega) | simp, by first | exact i1 | (intro _; omega) | simp, by first | exact i2 | (intro _; omega) | simp, by first | exact i3 | (intro _; omega) | simp, by omega⟩⟩ (Rel.reset' (by simp [resT, bdA, hw]) (by simp [resM, bdB, bdA.bdL, bdA])) (by show l.length - (k + 1) < l.length - k; omega)
          · have e2 : done ⟨l0, l1, l2, l3, x0, x1, x2, x3, M⟩ 1 n = (⟨l0, l1, l2, l3, x0, x1, x2, x3, M⟩, 11) := by
              have hd' : x1 = false ∨ ¬ (n = l1) := by
                cases x1 <;> simp_all
              simp [done, outF, hg, doneQ, Ou.open', Ou.last, Ou.set, kindB, hd']
            have hy : ¬ (l1 < t1) := by omega
            simp only [hu1]
            simp [Try.ntmps4, Try.results4]
            refine CW.call (done_w _ _ _ _ _ _ _ _ _ _ _) (fun _ _ => by simp [Try.call12]) rfl rfl rfl (by first | exact .inl rfl | exact .inr ⟨_, _, rfl, by simp []⟩) rfl rfl rfl (CW.runOps 300 rfl ?_)
            simp [e2, Try.ntmps4, Try.results4]
            refine ⟨by decide +kernel, ?_⟩
            refine CW.call (good _ _ _ _ _ _ _ _ _) (fun _ _ => by simp [Try.call19]) rfl rfl rfl (by first | exact .inl rfl | exact .inr ⟨_, _, rfl, by simp []⟩) rfl rfl rfl (CW.runOps 300 rfl ?_)
            simp [hg, Try.ntmps4, Try.results4]
            refine CW.call (sound _ _ _ _ _) (fun _ _ => by simp [Try.call21]) rfl rfl rfl (by first | exact .inl rfl | exact .inr ⟨_, _, rfl, by simp []⟩) rfl rfl rfl (CW.runOps 300 rfl ?_)
            simp [hs, hy, hw, Try.ntmps4, Try.results4]
            refine ⟨by decide +kernel, ?_⟩
            exact hB _ ⟨k + 1, l0, l1, l2, l3, x0, x1, x2, x3, t0, t1, t2, t3, by omega, ⟨by first | exact i0 | (intro _; omega) | simp, by first | exact i1 | (intro _; omega) | simp, by first | exact i2 | (intro _; omega) | simp, by first | exact i3 | (intro _; omega) | simp, by omega⟩⟩ (Rel.reset' (by simp [resT, bdA, hw]) (by simp [resM, bdB, bdA.bdL, bdA])) (by show l.length - (k + 1) < l.length - k; omega)
        · simp only [hu1]
          simp [Try.ntmps4, Try.results4]
          refine ⟨by decide +kernel, ?_⟩
          refine run_br_split (fun hn => ?_) (fun hn => ?_)
          · simp only [hn]
            simp [hw, Try.ntmps4, Try.results4]
            exact hB _ ⟨k + 1, l0, l1, l2, l3, x0, x1, x2, x3, t0, t1, t2, t3, by omega, ⟨by first | exact i0 | (intro _; omega) | simp, by first | exact i1 | (intro _; omega) | simp, by first | exact i2 | (intro _; omega) | simp, by first | exact i3 | (intro _; omega) | simp, by omega⟩⟩ (Rel.reset' (by simp [resT, bdA, hw]) (by simp [resM, bdB, bdA.bdL, bdA])) (by show l.length - (k + 1) < l.length - k; omega)
          simp only [hn]
          have hn' : n ≤ l1 := by simp at hn; omega
          simp [Try.ntmps4, Try.results4]
          have hy : ¬ (l1 < t1) := by omega
          refine CW.call (take_w _ _ _ _ _ _ _) (fun _ _ => by simp [Try.call14]) rfl rfl rfl (by first | exact .inl rfl | exact .inr ⟨_, _, rfl, by simp []⟩) rfl rfl rfl (CW.runOps 300 rfl ?_)
          by_cases h1 : n = t1 + 1
          · subst h1
            have e3 : take ⟨t0, t1, t2, t3, M⟩ 1 (t1 + 1) = (⟨t0, t1 + 1, t2, t3, M⟩, 0) := by
              have h1 : ¬ (t1 + 1 = t1) := by omega
              have h2 : ¬ (M < t1 + 1) := by omega
              simp [take, inF, hs, takeQ, Nn.last, Nn.set, kindB, h1, h2]
            have hq : IntKind.wrap .i64 (t1 + 1) = t1 + 1 := wrap_i64 (by omega) (by omega)
            have hs' : soundB ⟨t0, t1 + 1, t2, t3, M⟩ = true := by rw [soundB_mk]; omega
            have hy' : ¬ (l1 < t1 + 1) := by omega
            simp [e3, hq, Try.ntmps4, Try.results4]
            refine ⟨by decide +kernel, ?_⟩
            refine CW.call (good _ _ _ _ _ _ _ _ _) (fun _ _ => by simp [Try.call19]) rfl rfl rfl (by first | exact .inl rfl | exact .inr ⟨_, _, rfl, by simp []⟩) rfl rfl rfl (CW.runOps 300 rfl ?_)
            simp [hg, Try.ntmps4, Try.results4]
            refine CW.call (sound _ _ _ _ _) (fun _ _ => by simp [Try.call21]) rfl rfl rfl (by first | exact .inl rfl | exact .inr ⟨_, _, rfl, by simp []⟩) rfl rfl rfl (CW.runOps 300 rfl ?_)
            simp [hs', hy', hw, Try.ntmps4, Try.results4]
            refine ⟨by decide +kernel, ?_⟩
            exact hB _ ⟨k + 1, l0, l1, l2, l3, x0, x1, x2, x3, t0, t1 + 1, t2, t3, by omega, ⟨by first | exact i0 | (intro _; omega) | simp, by first | exact i1 | (intro _; omega) | simp, by first | exact i2 | (intro _; omega) | simp, by first | exact i3 | (intro _; omega) | simp, by omega⟩⟩ (Rel.reset' (by simp [resT, bdA, hw]) (by simp [resM, bdB, bdA.bdL, bdA])) (by show l.length - (k + 1) < l.length - k; omega)
          · have e3 : (take ⟨t0, t1, t2, t3, M⟩ 1 n).1 = ⟨t0, t1, t2, t3, M⟩ ∧ (take ⟨t0, t1, t2, t3, M⟩ 1 n).2 ≠ 0 := by
              simp only [take, inF, hs, takeQ, Nn.last, kindB]
              simp
              (repeat' split) <;> first | (simp; done) | (exfalso; omega)
            obtain ⟨e3, e4⟩ := e3
            generalize (take ⟨t0, t1, t2, t3, M⟩ 1 n).2 = e at e4
            simp [e3, e4, Try.ntmps4, Try.results4]
            refine ⟨by decide +kernel, ?_⟩
            refine CW.call (good _ _ _ _ _ _ _ _ _) (fun _ _ => by simp [Try.call19]) rfl rfl rfl (by first | exact .inl rfl | exact .inr ⟨_, _, rfl, by simp []⟩) rfl rfl rfl (CW.runOps 300 rfl ?_)
            simp [hg, Try.ntmps4, Try.results4]
            refine CW.call (sound _ _ _ _ _) (fun _ _ => by simp [Try.call21]) rfl rfl rfl (by first | exact .inl rfl | exact .inr ⟨_, _, rfl, by simp []⟩) rfl rfl rfl (CW.runOps 300 rfl ?_)
            simp [hs, hy, hw, Try.ntmps4, Try.results4]
            refine ⟨by decide +kernel, ?_⟩
            exact hB _ ⟨k + 1, l0, l1, l2, l3, x0, x1, x2, x3, t0, t1, t2, t3, by omega, ⟨by first | exact i0 | (intro _; omega) | simp, by first | exact i1 | (intro _; omega) | simp, by first | exact i2 | (intro _; omega) | simp, by first | exact i3 | (intro _; omega) | simp, by omega⟩⟩ (Rel.reset' (by simp [resT, bdA, hw]) (by simp [resM, bdB, bdA.bdL, bdA])) (by show l.length - (k + 1) < l.length - k; omega)
    · refine run_br_split (fun hu => ?_) (fun hu => ?_)
      · cases x2 with
        | true =>
          have e2 : push ⟨l0, l1, l2, l3, x0, x1, true, x3, M⟩ 2 = (⟨l0, l1, l2, l3, x0, x1, true, x3, M⟩, 0, 15) := by simp [push, outF, hg, pushQ, Ou.open', Ou.last, kindB]
          have hz : ¬ (M < l2) := by omega
          have hy : ¬ (l2 < t2) := by omega
          simp only [hu]
          simp [Try.ntmps4, Try.results4]
          refine CW.call (push_w _ _ _ _ _ _ _ _ _ _) (fun _ _ => by simp [Try.call9]) rfl rfl rfl (by first | exact .inl rfl | exact .inr ⟨_, _, rfl, by simp []⟩) rfl rfl rfl (CW.runOps 300 rfl ?_)
          simp [e2, hz, Try.ntmps4, Try.results4]
          refine ⟨by decide +kernel, ?_⟩
          refine CW.call (good _ _ _ _ _ _ _ _ _) (fun _ _ => by simp [Try.call19]) rfl rfl rfl (by first | exact .inl rfl | exact .inr ⟨_, _, rfl, by simp []⟩) rfl rfl rfl (CW.runOps 300 rfl ?_)
          simp [hg, Try.ntmps4, Try.results4]
          refine CW.call (sound _ _ _ _ _) (fun _ _ => by simp [Try.call21]) rfl rfl rfl (by first | exact .inl rfl | exact .inr ⟨_, _, rfl, by simp []⟩) rfl rfl rfl (CW.runOps 300 rfl ?_)
          simp [hs, hy, hw, Try.ntmps4, Try.results4]
          refine ⟨by decide +kernel, ?_⟩
          exact hB _ ⟨k + 1, l0, l1, l2, l3, x0, x1, true, x3, t0, t1, t2, t3, by omega, ⟨by first | exact i0 | (intro _; omega) | simp, by first | exact i1 | (intro _; omega) | simp, by first | exact i2 | (intro _; omega) | simp, by first | exact i3 | (intro _; omega) | simp, by omega⟩⟩ (Rel.reset' (by simp [resT, bdA, hw]) (by simp [resM, bdB, bdA.bdL, bdA])) (by show l.length - (k + 1) < l.length - k; omega)
        | false =>
          by_cases hm : l2 = M
          · have e2 : push ⟨l0, l1, l2, l3, x0, x1, false, x3, M⟩ 2 = (⟨l0, l1, l2, l3, x0, x1, false, x3, M⟩, 0, 14) := by
              simp [push, outF, hg, pushQ, Ou.open', Ou.last, kindB]
              first | exact fun h => absurd hm h | simp [hm]
            have hz : ¬ (M < l2) := by omega
            have hy : ¬ (l2 < t2) := by omega
            simp only [hu]
            simp [Try.ntmps4, Try.results4]
            refine CW.call (push_w _ _ _ _ _ _ _ _ _ _) (fun _ _ => by simp [Try.call9]) rfl rfl rfl (by first | exact .inl rfl | exact .inr ⟨_, _, rfl, by simp []⟩) rfl rfl rfl (CW.runOps 300 rfl ?_)
            simp [e2, hz, Try.ntmps4, Try.results4]
            refine ⟨by decide +kernel, ?_⟩
            refine CW.call (good _ _ _ _ _ _ _ _ _) (fun _ _ => by simp [Try.call19]) rfl rfl rfl (by first | exact .inl rfl | exact .inr ⟨_, _, rfl, by simp []⟩) rfl rfl rfl (CW.runOps 300 rfl ?_)
            simp [hg, Try.ntmps4, Try.results4]
            refine CW.call (sound _ _ _ _ _) (fun _ _ => by simp [Try.call21]) rfl rfl rfl (by first | exact .inl rfl | exact .inr ⟨_, _, rfl, by simp []⟩) rfl rfl rfl (CW.runOps 300 rfl ?_)
            simp [hs, hy, hw, Try.ntmps4, Try.results4]
            refine ⟨by decide +kernel, ?_⟩
            exact hB _ ⟨k + 1, l0, l1, l2, l3, x0, x1, false, x3, t0, t1, t2, t3, by omega, ⟨by first | exact i0 | (intro _; omega) | simp, by first | exact i1 | (intro _; omega) | simp, by first | exact i2 | (intro _; omega) | simp, by first | exact i3 | (intro _; omega) | simp, by omega⟩⟩ (Rel.reset' (by simp [resT, bdA, hw]) (by simp [resM, bdB, bdA.bdL, bdA])) (by show l.length - (k + 1) < l.length - k; omega)
          · have e2 : push ⟨l0, l1, l2, l3, x0, x1, false, x3, M⟩ 2 = (⟨l0, l1, l2 + 1, l3, x0, x1, true, x3, M⟩, l2 + 1, 0) := by simp [push, outF, hg, pushQ, Ou.open', Ou.last, Ou.set, kindB, hm]
            have hz : ¬ (M < l2 + 1) := by omega
            have hy : ¬ (l2 + 1 < t2) := by omega
            have hq : IntKind.wrap .i64 (l2 + 1) = l2 + 1 := wrap_i64 (by omega) (by omega)
            have hg' : goodB ⟨l0, l1, l2 + 1, l3, x0, x1, true, x3, M⟩ = true := by
              rw [goodB_is (by first | (intro _; omega) | exact i0 | simp) (by first | (intro _; omega) | exact i1 | simp) (by first | (intro _; omega) | exact i2 | simp) (by first | (intro _; omega) | exact i3 | simp), soundB_mk]; omega
            simp only [hu]
            simp [Try.ntmps4, Try.results4]
            refine CW.call (push_w _ _ _ _ _ _ _ _ _ _) (fun _ _ => by simp [Try.call9]) rfl rfl rfl (by first | exact .inl rfl | exact .inr ⟨_, _, rfl, by simp []⟩) rfl rfl rfl (CW.runOps 300 rfl ?_)
            simp [e2, hz, hq, Try.ntmps4, Try.results4]
            refine ⟨by decide +kernel, ?_⟩
            refine CW.call (good _ _ _ _ _ _ _ _ _) (fun _ _ => by simp [Try.call19]) rfl rfl rfl (by first | exact .inl rfl | exact .inr ⟨_, _, rfl, by simp []⟩) rfl rfl rfl (CW.runOps 300 rfl ?_)
            simp [hg', Try.ntmps4, Try.results4]
            refine CW.call (sound _ _ _ _ _) (fun _ _ => by simp [Try.call21]) rfl rfl rfl (by first | exact .inl rfl | exact .inr ⟨_, _, rfl, by simp []⟩) rfl rfl rfl (CW.runOps 300 rfl ?_)
            simp [hs, hy, hw, Try.ntmps4, Try.results4]
            refine ⟨by decide +kernel, ?_⟩
            exact hB _ ⟨k + 1, l0, l1, l2 + 1, l3, x0, x1, true, x3, t0, t1, t2, t3, by omega, ⟨by first | exact i0 | (intro _; omega) | simp, by first | exact i1 | (intro _; omega) | simp, by first | exact i2 | (intro _; omega) | simp, by first | exact i3 | (intro _; omega) | simp, by omega⟩⟩ (Rel.reset' (by simp [resT, bdA, hw]) (by simp [resM, bdB, bdA.bdL, bdA])) (by show l.length - (k + 1) < l.length - k; omega)
      · simp only [hu]
        simp [Try.ntmps4, Try.results4]
        refine run_br_split (fun hu1 => ?_) (fun hu1 => ?_)
        · by_cases hd : x2 = true ∧ n = l2
          · obtain ⟨rfl, hd2⟩ := hd
            replace hd2 := hd2.symm
            subst hd2
            have e2 : done ⟨l0, l1, l2, l3, x0, x1, true, x3, M⟩ 2 l2 = (⟨l0, l1, l2, l3, x0, x1, false, x3, M⟩, 0) := by simp [done, outF, hg, doneQ, Ou.open', Ou.last, Ou.set, kindB]
            have hy : ¬ (l2 < t2) := by omega
            have hg' : goodB ⟨l0, l1, l2, l3, x0, x1, false, x3, M⟩ = true := by
              rw [goodB_is (by first | (intro _; omega) | exact i0 | simp) (by first | (intro _; omega) | exact i1 | simp) (by first | (intro _; omega) | exact i2 | simp) (by first | (intro _; omega) | exact i3 | simp), soundB_mk]; omega
            simp only [hu1]
            simp [Try.ntmps4, Try.results4]
            refine CW.call (done_w _ _ _ _ _ _ _ _ _ _ _) (fun _ _ => by simp [Try.call12]) rfl rfl rfl (by first | exact .inl rfl | exact .inr ⟨_, _, rfl, by simp []⟩) rfl rfl rfl (CW.runOps 300 rfl ?_)
            simp [e2, Try.ntmps4, Try.results4]
            refine ⟨by decide +kernel, ?_⟩
            refine CW.call (good _ _ _ _ _ _ _ _ _) (fun _ _ => by simp [Try.call19]) rfl rfl rfl (by first | exact .inl rfl | exact .inr ⟨_, _, rfl, by simp []⟩) rfl rfl rfl (CW.runOps 300 rfl ?_)
            simp [hg', Try.ntmps4, Try.results4]
            refine CW.call (sound _ _ _ _ _) (fun _ _ => by simp [Try.call21]) rfl rfl rfl (by first | exact .inl rfl | exact .inr ⟨_, _, rfl, by simp []⟩) rfl rfl rfl (CW.runOps 300 rfl ?_)
            simp [hs, hy, hw, Try.ntmps4, Try.results4]
            refine ⟨by decide +kernel, ?_⟩
            exact hB _ ⟨k + 1, l0, l1, l2, l3, x0, x1, false, x3, t0, t1, t2, t3, by omega, ⟨by first | exact i0 | (intro _; omega) | simp, by first | exact i1 | (intro _; omega) | simp, by first | exact i2 | (intro _; omega) | simp, by first | exact i3 | (intro _; omega) | simp, by omega⟩⟩ (Rel.reset' (by simp [resT, bdA, hw]) (by simp [resM, bdB, bdA.bdL, bdA])) (by show l.length - (k + 1) < l.length - k; omega)
          · have e2 : done ⟨l0, l1, l2, l3, x0, x1, x2, x3, M⟩ 2 n = (⟨l0, l1, l2, l3, x0, x1, x2, x3, M⟩, 11) := by
              have hd' : x2 = false ∨ ¬ (n = l2) := by
                cases x2 <;> simp_all
              simp [done, outF, hg, doneQ, Ou.open', Ou.last, Ou.set, kindB, hd']
            have hy : ¬ (l2 < t2) := by omega
            simp only [hu1]
            simp [Try.ntmps4, Try.results4]
            refine CW.call (done_w _ _ _ _ _ _ _ _ _ _ _) (fun _ _ => by simp [Try.call12]) rfl rfl rfl (by first | exact .inl rfl | exact .inr ⟨_, _, rfl, by simp []⟩) rfl rfl rfl (CW.runOps 300 rfl ?_)
            simp [e2, Try.ntmps4, Try.results4]
            refine ⟨by decide +kernel, ?_⟩
            refine CW.call (good _ _ _ _ _ _ _ _ _) (fun _ _ => by simp [Try.call19]) rfl rfl rfl (by first | exact .inl rfl | exact .inr ⟨_, _, rfl, by simp []⟩) rfl rfl rfl (CW.runOps 300 rfl ?_)
            simp [hg, Try.ntmps4, Try.results4]
            refine CW.call (sound _ _ _ _ _) (fun _ _ => by simp [Try.call21]) rfl rfl rfl (by first | exact .inl rfl | exact .inr ⟨_, _, rfl, by simp []⟩) rfl rfl rfl (CW.runOps 300 rfl ?_)
            simp [hs, hy, hw, Try.ntmps4, Try.results4]
            refine ⟨by decide +kernel, ?_⟩
            exact hB _ ⟨k + 1, l0, l1, l2, l3, x0, x1, x2, x3, t0, t1, t2, t3, by omega, ⟨by first | exact i0 | (intro _; omega) | simp, by first | exact i1 | (intro _; omega) | simp, by first | exact i2 | (intro _; omega) | simp, by first | exact i3 | (intro _; omega) | simp, by omega⟩⟩ (Rel.reset' (by simp [resT, bdA, hw]) (by simp [resM, bdB, bdA.bdL, bdA])) (by show l.length - (k + 1) < l.length - k; omega)
        · simp only [hu1]
          simp [Try.ntmps4, Try.results4]
          refine ⟨by decide +kernel, ?_⟩
          refine run_br_split (fun hn => ?_) (fun hn => ?_)
          · simp only [hn]
            simp [hw, Try.ntmps4, Try.results4]
            exact hB _ ⟨k + 1, l0, l1, l2, l3, x0, x1, x2, x3, t0, t1, t2, t3, by omega, ⟨by first | exact i0 | (intro _; omega) | simp, by first | exact i1 | (intro _; omega) | simp, by first | exact i2 | (intro _; omega) | simp, by first | exact i3 | (intro _; omega) | simp, by omega⟩⟩ (Rel.reset' (by simp [resT, bdA, hw]) (by simp [resM, bdB, bdA.bdL, bdA])) (by show l.length - (k + 1) < l.length - k; omega)
          simp only [hn]
          have hn' : n ≤ l2 := by simp at hn; omega
          simp [Try.ntmps4, Try.results4]
          have hy : ¬ (l2 < t2) := by omega
          refine CW.call (take_w _ _ _ _ _ _ _) (fun _ _ => by simp [Try.call14]) rfl rfl rfl (by first | exact .inl rfl | exact .inr ⟨_, _, rfl, by simp []⟩) rfl rfl rfl (CW.runOps 300 rfl ?_)
          by_cases h1 : n = t2 + 1
          · subst h1
            have e3 : take ⟨t0, t1, t2, t3, M⟩ 2 (t2 + 1) = (⟨t0, t1, t2 + 1, t3, M⟩, 0) := by
              have h1 : ¬ (t2 + 1 = t2) := by omega
              have h2 : ¬ (M < t2 + 1) := by omega
              simp [take, inF, hs, takeQ, Nn.last, Nn.set, kindB, h1, h2]
            have hq : IntKind.wrap .i64 (t2 + 1) = t2 + 1 := wrap_i64 (by omega) (by omega)
            have hs' : soundB ⟨t0, t1, t2 + 1, t3, M⟩ = true := by rw [soundB_mk]; omega
            have hy' : ¬ (l2 < t2 + 1) := by omega
            simp [e3, hq, Try.ntmps4, Try.results4]
            refine ⟨by decide +kernel, ?_⟩
            refine CW.call (good _ _ _ _ _ _ _ _ _) (fun _ _ => by simp [Try.call19]) rfl rfl rfl (by first | exact .inl rfl | exact .inr ⟨_, _, rfl, by simp []⟩) rfl rfl rfl (CW.runOps 300 rfl ?_)
            simp [hg, Try.ntmps4, Try.results4]
            refine CW.call (sound _ _ _ _ _) (fun _ _ => by simp [Try.call21]) rfl rfl rfl (by first | exact .inl rfl | exact .inr ⟨_, _, rfl, by simp []⟩) rfl rfl rfl (CW.runOps 300 rfl ?_)
            simp [hs', hy', hw, Try.ntmps4, Try.results4]
            refine ⟨by decide +kernel, ?_⟩
            exact hB _ ⟨k + 1, l0, l1, l2, l3, x0, x1, x2, x3, t0, t1, t2 + 1, t3, by omega, ⟨by first | exact i0 | (intro _; omega) | simp, by first | exact i1 | (intro _; omega) | simp, by first | exact i2 | (intro _; omega) | simp, by first | exact i3 | (intro _; omega) | simp, by omega⟩⟩ (Rel.reset' (by simp [resT, bdA, hw]) (by simp [resM, bdB, bdA.bdL, bdA])) (by show l.length - (k + 1) < l.length - k; omega)
          · have e3 : (take ⟨t0, t1, t2, t3, M⟩ 2 n).1 = ⟨t0, t1, t2, t3, M⟩ ∧ (take ⟨t0, t1, t2, t3, M⟩ 2 n).2 ≠ 0 := by
              simp only [take, inF, hs, takeQ, Nn.last, kindB]
              simp
              (repeat' split) <;> first | (simp; done) | (exfalso; omega)
            obtain ⟨e3, e4⟩ := e3
            generalize (take ⟨t0, t1, t2, t3, M⟩ 2 n).2 = e at e4
            simp [e3, e4, Try.ntmps4, Try.results4]
            refine ⟨by decide +kernel, ?_⟩
            refine CW.call (good _ _ _ _ _ _ _ _ _) (fun _ _ => by simp [Try.call19]) rfl rfl rfl (by first | exact .inl rfl | exact .inr ⟨_, _, rfl, by simp []⟩) rfl rfl rfl (CW.runOps 300 rfl ?_)
            simp [hg, Try.ntmps4, Try.results4]
            refine CW.call (sound _ _ _ _ _) (fun _ _ => by simp [Try.call21]) rfl rfl rfl (by first | exact .inl rfl | exact .inr ⟨_, _, rfl, by simp []⟩) rfl rfl rfl (CW.runOps 300 rfl ?_)
            simp [hs, hy, hw, Try.ntmps4, Try.results4]
            refine ⟨by decide +kernel, ?_⟩
            exact hB _ ⟨k + 1, l0, l1, l2, l3, x0, x1, x2, x3, t0, t1, t2, t3, by omega, ⟨by first | exact i0 | (intro _; omega) | simp, by first | exact i1 | (intro _; omega) | simp, by first | exact i2 | (intro _; omega) | simp, by first | exact i3 | (intro _; omega) | simp, by omega⟩⟩ (Rel.reset' (by simp [resT, bdA, hw]) (by simp [resM, bdB, bdA.bdL, bdA])) (by show l.length - (k + 1) < l.length - k; omega)
    · refine run_br_split (fun hu => ?_) (fun hu => ?_)
      · cases x3 with
        | true =>
          have e2 : push ⟨l0, l1, l2, l3, x0, x1, x2, true, M⟩ 3 = (⟨l0, l1, l2, l3, x0, x1, x2, true, M⟩, 0, 15) := by simp [push, outF, hg, pushQ, Ou.open', Ou.last, kindB]
          have hz : ¬ (M < l3) := by omega
          have hy : ¬ (l3 < t3) := by omega
          simp only [hu]
          simp [Try.ntmps4, Try.results4]
          refine CW.call (push_w _ _ _ _ _ _ _ _ _ _) (fun _ _ => by simp [Try.call9]) rfl rfl rfl (by first | exact .inl rfl | exact .inr ⟨_, _, rfl, by simp []⟩) rfl rfl rfl (CW.runOps 300 rfl ?_)
          simp [e2, hz, Try.ntmps4, Try.results4]
          refine ⟨by decide +kernel, ?_⟩
          refine CW.call (good _ _ _ _ _ _ _ _ _) (fun _ _ => by simp [Try.call19]) rfl rfl rfl (by first | exact .inl rfl | exact .inr ⟨_, _, rfl, by simp []⟩) rfl rfl rfl (CW.runOps 300 rfl ?_)
          simp [hg, Try.ntmps4, Try.results4]
          refine CW.call (sound _ _ _ _ _) (fun _ _ => by simp [Try.call21]) rfl rfl rfl (by first | exact .inl rfl | exact .inr ⟨_, _, rfl, by simp []⟩) rfl rfl rfl (CW.runOps 300 rfl ?_)
          simp [hs, hy, hw, Try.ntmps4, Try.results4]
          refine ⟨by decide +kernel, ?_⟩
          exact hB _ ⟨k + 1, l0, l1, l2, l3, x0, x1, x2, true, t0, t1, t2, t3, by omega, ⟨by first | exact i0 | (intro _; omega) | simp, by first | exact i1 | (intro _; omega) | simp, by first | exact i2 | (intro _; omega) | simp, by first | exact i3 | (intro _; omega) | simp, by omega⟩⟩ (Rel.reset' (by simp [resT, bdA, hw]) (by simp [resM, bdB, bdA.bdL, bdA])) (by show l.length - (k + 1) < l.length - k; omega)
        | false =>
          by_cases hm : l3 = M
          · have e2 : push ⟨l0, l1, l2, l3, x0, x1, x2, false, M⟩ 3 = (⟨l0, l1, l2, l3, x0, x1, x2, false, M⟩, 0, 14) := by
              simp [push, outF, hg, pushQ, Ou.open', Ou.last, kindB]
              first | exact fun h => absurd hm h | simp [hm]
            have hz : ¬ (M < l3) := by omega
            have hy : ¬ (l3 < t3) := by omega
            simp only [hu]
            simp [Try.ntmps4, Try.results4]
            refine CW.call (push_w _ _ _ _ _ _ _ _ _ _) (fun _ _ => by simp [Try.call9]) rfl rfl rfl (by first | exact .inl rfl | exact .inr ⟨_, _, rfl, by simp []⟩) rfl rfl rfl (CW.runOps 300 rfl ?_)
            simp [e2, hz, Try.ntmps4, Try.results4]
            refine ⟨by decide +kernel, ?_⟩
            refine CW.call (good _ _ _ _ _ _ _ _ _) (fun _ _ => by simp [Try.call19]) rfl rfl rfl (by first | exact .inl rfl | exact .inr ⟨_, _, rfl, by simp []⟩) rfl rfl rfl (CW.runOps 300 rfl ?_)
            simp [hg, Try.ntmps4, Try.results4]
            refine CW.call (sound _ _ _ _ _) (fun _ _ => by simp [Try.call21]) rfl rfl rfl (by first | exact .inl rfl | exact .inr ⟨_, _, rfl, by simp []⟩) rfl rfl rfl (CW.runOps 300 rfl ?_)
            simp [hs, hy, hw, Try.ntmps4, Try.results4]
            refine ⟨by decide +kernel, ?_⟩
            exact hB _ ⟨k + 1, l0, l1, l2, l3, x0, x1, x2, false, t0, t1, t2, t3, by omega, ⟨by first | exact i0 | (intro _; omega) | simp, by first | exact i1 | (intro _; omega) | simp, by first | exact i2 | (intro _; omega) | simp, by first | exact i3 | (intro _; omega) | simp, by omega⟩⟩ (Rel.reset' (by simp [resT, bdA, hw]) (by simp [resM, bdB, bdA.bdL, bdA])) (by show l.length - (k + 1) < l.length - k; omega)
          · have e2 : push ⟨l0, l1, l2, l3, x0, x1, x2, false, M⟩ 3 = (⟨l0, l1, l2, l3 + 1, x0, x1, x2, true, M⟩, l3 + 1, 0) := by simp [push, outF, hg, pushQ, Ou.open', Ou.last, Ou.set, kindB, hm]
            have hz : ¬ (M < l3 + 1) := by omega
            have hy : ¬ (l3 + 1 < t3) := by omega
            have hq : IntKind.wrap .i64 (l3 + 1) = l3 + 1 := wrap_i64 (by omega) (by omega)
            have hg' : goodB ⟨l0, l1, l2, l3 + 1, x0, x1, x2, true, M⟩ = true := by
              rw [goodB_is (by first | (intro _; omega) | exact i0 | simp) (by first | (intro _; omega) | exact i1 | simp) (by first | (intro _; omega) | exact i2 | simp) (by first | (intro _; omega) | exact i3 | simp), soundB_mk]; omega
            simp only [hu]
            simp [Try.ntmps4, Try.results4]
            refine CW.call (push_w _ _ _ _ _ _ _ _ _ _) (fun _ _ => by simp [Try.call9]) rfl rfl rfl (by first | exact .inl rfl | exact .inr ⟨_, _, rfl, by simp []⟩) rfl rfl rfl (CW.runOps 300 rfl ?_)
            simp [e2, hz, hq, Try.ntmps4, Try.results4]
            refine ⟨by decide +kernel, ?_⟩
            refine CW.call (good _ _ _ _ _ _ _ _ _) (fun _ _ => by simp [Try.call19]) rfl rfl rfl (by first | exact .inl rfl | exact .inr ⟨_, _, rfl, by simp []⟩) rfl rfl rfl (CW.runOps 300 rfl ?_)
            simp [hg', Try.ntmps4, Try.results4]
            refine CW.call (sound _ _ _ _ _) (fun _ _ => by simp [Try.call21]) rfl rfl rfl (by first | exact .inl rfl | exact .inr ⟨_, _, rfl, by simp []⟩) rfl rfl rfl (CW.runOps 300 rfl ?_)
            simp [hs, hy, hw, Try.ntmps4, Try.results4]
            refine ⟨by decide +kernel, ?_⟩
            exact hB _ ⟨k + 1, l0, l1, l2, l3 + 1, x0, x1, x2, true, t0, t1, t2, t3, by omega, ⟨by first | exact i0 | (intro _; omega) | simp, by first | exact i1 | (intro _; omega) | simp, by first | exact i2 | (intro _; omega) | simp, by first | exact i3 | (intro _; omega) | simp, by omega⟩⟩ (Rel.reset' (by simp [resT, bdA, hw]) (by simp [resM, bdB, bdA.bdL, bdA])) (by show l.length - (k + 1) < l.length - k; omega)
      · simp only [hu]
        simp [Try.ntmps4, Try.results4]
        refine run_br_split (fun hu1 => ?_) (fun hu1 => ?_)
        · by_cases hd : x3 = true ∧ n = l3
          · obtain ⟨rfl, hd2⟩ := hd
            replace hd2 := hd2.symm
            subst hd2
            have e2 : done ⟨l0, l1, l2, l3, x0, x1, x2, true, M⟩ 3 l3 = (⟨l0, l1, l2, l3, x0, x1, x2, false, M⟩, 0) := by simp [done, outF, hg, doneQ, Ou.open', Ou.last, Ou.set, kindB]
            have hy : ¬ (l3 < t3) := by omega
            have hg' : goodB ⟨l0, l1, l2, l3, x0, x1, x2, false, M⟩ = true := by
              rw [goodB_is (by first | (intro _; omega) | exact i0 | simp) (by first | (intro _; omega) | exact i1 | simp) (by first | (intro _; omega) | exact i2 | simp) (by first | (intro _; omega) | exact i3 | simp), soundB_mk]; omega
            simp only [hu1]
            simp [Try.ntmps4, Try.results4]
            refine CW.call (done_w _ _ _ _ _ _ _ _ _ _ _) (fun _ _ => by simp [Try.call12]) rfl rfl rfl (by first | exact .inl rfl | exact .inr ⟨_, _, rfl, by simp []⟩) rfl rfl rfl (CW.runOps 300 rfl ?_)
            simp [e2, Try.ntmps4, Try.results4]
            refine ⟨by decide +kernel, ?_⟩
            refine CW.call (good _ _ _ _ _ _ _ _ _) (fun _ _ => by simp [Try.call19]) rfl rfl rfl (by first | exact .inl rfl | exact .inr ⟨_, _, rfl, by simp []⟩) rfl rfl rfl (CW.runOps 300 rfl ?_)
            simp [hg', Try.ntmps4, Try.results4]
            refine CW.call (sound _ _ _ _ _) (fun _ _ => by simp [Try.call21]) rfl rfl rfl (by first | exact .inl rfl | exact .inr ⟨_, _, rfl, by simp []⟩) rfl rfl rfl (CW.runOps 300 rfl ?_)
            simp [hs, hy, hw, Try.ntmps4, Try.results4]
            refine ⟨by decide +kernel, ?_⟩
            exact hB _ ⟨k + 1, l0, l1, l2, l3, x0, x1, x2, false, t0, t1, t2, t3, by omega, ⟨by first | exact i0 | (intro _; omega) | simp, by first | exact i1 | (intro _; omega) | simp, by first | exact i2 | (intro _; omega) | simp, by first | exact i3 | (intro _; omega) | simp, by omega⟩⟩ (Rel.reset' (by simp [resT, bdA, hw]) (by simp [resM, bdB, bdA.bdL, bdA])) (by show l.length - (k + 1) < l.length - k; omega)
          · have e2 : done ⟨l0, l1, l2, l3, x0, x1, x2, x3, M⟩ 3 n = (⟨l0, l1, l2, l3, x0, x1, x2, x3, M⟩, 11) := by
              have hd' : x3 = false ∨ ¬ (n = l3) := by
                cases x3 <;> simp_all
              simp [done, outF, hg, doneQ, Ou.open', Ou.last, Ou.set, kindB, hd']
            have hy : ¬ (l3 < t3) := by omega
            simp only [hu1]
            simp [Try.ntmps4, Try.results4]
            refine CW.call (done_w _ _ _ _ _ _ _ _ _ _ _) (fun _ _ => by simp [Try.call12]) rfl rfl rfl (by first | exact .inl rfl | exact .inr ⟨_, _, rfl, by simp []⟩) rfl rfl rfl (CW.runOps 300 rfl ?_)
            simp [e2, Try.ntmps4, Try.results4]
            refine ⟨by decide +kernel, ?_⟩
            refine CW.call (good _ _ _ _ _ _ _ _ _) (fun _ _ => by simp [Try.call19]) rfl rfl rfl (by first | exact .inl rfl | exact .inr ⟨_, _, rfl, by simp []⟩) rfl rfl rfl (CW.runOps 300 rfl ?_)
            simp [hg, Try.ntmps4, Try.results4]
            refine CW.call (sound _ _ _ _ _) (fun _ _ => by simp [Try.call21]) rfl rfl rfl (by first | exact .inl rfl | exact .inr ⟨_, _, rfl, by simp []⟩) rfl rfl rfl (CW.runOps 300 rfl ?_)
            simp [hs, hy, hw, Try.ntmps4, Try.results4]
            refine ⟨by decide +kernel, ?_⟩
            exact hB _ ⟨k + 1, l0, l1, l2, l3, x0, x1, x2, x3, t0, t1, t2, t3, by omega, ⟨by first | exact i0 | (intro _; omega) | simp, by first | exact i1 | (intro _; omega) | simp, by first | exact i2 | (intro _; omega) | simp, by first | exact i3 | (intro _; omega) | simp, by omega⟩⟩ (Rel.reset' (by simp [resT, bdA, hw]) (by simp [resM, bdB, bdA.bdL, bdA])) (by show l.length - (k + 1) < l.length - k; omega)
        · simp only [hu1]
          simp [Try.ntmps4, Try.results4]
          refine ⟨by decide +kernel, ?_⟩
          refine run_br_split (fun hn => ?_) (fun hn => ?_)
          · simp only [hn]
            simp [hw, Try.ntmps4, Try.results4]
            exact hB _ ⟨k + 1, l0, l1, l2, l3, x0, x1, x2, x3, t0, t1, t2, t3, by omega, ⟨by first | exact i0 | (intro _; omega) | simp, by first | exact i1 | (intro _; omega) | simp, by first | exact i2 | (intro _; omega) | simp, by first | exact i3 | (intro _; omega) | simp, by omega⟩⟩ (Rel.reset' (by simp [resT, bdA, hw]) (by simp [resM, bdB, bdA.bdL, bdA])) (by show l.length - (k + 1) < l.length - k; omega)
          simp only [hn]
          have hn' : n ≤ l3 := by simp at hn; omega
          simp [Try.ntmps4, Try.results4]
          have hy : ¬ (l3 < t3) := by omega
          refine CW.call (take_w _ _ _ _ _ _ _) (fun _ _ => by simp [Try.call14]) rfl rfl rfl (by first | exact .inl rfl | exact .inr ⟨_, _, rfl, by simp []⟩) rfl rfl rfl (CW.runOps 300 rfl ?_)
          by_cases h1 : n = t3 + 1
          · subst h1
            have e3 : take ⟨t0, t1, t2, t3, M⟩ 3 (t3 + 1) = (⟨t0, t1, t2, t3 + 1, M⟩, 0) := by
              have h1 : ¬ (t3 + 1 = t3) := by omega
              have h2 : ¬ (M < t3 + 1) := by omega
              simp [take, inF, hs, takeQ, Nn.last, Nn.set, kindB, h1, h2]
            have hq : IntKind.wrap .i64 (t3 + 1) = t3 + 1 := wrap_i64 (by omega) (by omega)
            have hs' : soundB ⟨t0, t1, t2, t3 + 1, M⟩ = true := by rw [soundB_mk]; omega
            have hy' : ¬ (l3 < t3 + 1) := by omega
            simp [e3, hq, Try.ntmps4, Try.results4]
            refine ⟨by decide +kernel, ?_⟩
            refine CW.call (good _ _ _ _ _ _ _ _ _) (fun _ _ => by simp [Try.call19]) rfl rfl rfl (by first | exact .inl rfl | exact .inr ⟨_, _, rfl, by simp []⟩) rfl rfl rfl (CW.runOps 300 rfl ?_)
            simp [hg, Try.ntmps4, Try.results4]
            refine CW.call (sound _ _ _ _ _) (fun _ _ => by simp [Try.call21]) rfl rfl rfl (by first | exact .inl rfl | exact .inr ⟨_, _, rfl, by simp []⟩) rfl rfl rfl (CW.runOps 300 rfl ?_)
            simp [hs', hy', hw, Try.ntmps4, Try.results4]
            refine ⟨by decide +kernel, ?_⟩
            exact hB _ ⟨k + 1, l0, l1, l2, l3, x0, x1, x2, x3, t0, t1, t2, t3 + 1, by omega, ⟨by first | exact i0 | (intro _; omega) | simp, by first | exact i1 | (intro _; omega) | simp, by first | exact i2 | (intro _; omega) | simp, by first | exact i3 | (intro _; omega) | simp, by omega⟩⟩ (Rel.reset' (by simp [resT, bdA, hw]) (by simp [resM, bdB, bdA.bdL, bdA])) (by show l.length - (k + 1) < l.length - k; omega)
          · have e3 : (take ⟨t0, t1, t2, t3, M⟩ 3 n).1 = ⟨t0, t1, t2, t3, M⟩ ∧ (take ⟨t0, t1, t2, t3, M⟩ 3 n).2 ≠ 0 := by
              simp only [take, inF, hs, takeQ, Nn.last, kindB]
              simp
              (repeat' split) <;> first | (simp; done) | (exfalso; omega)
            obtain ⟨e3, e4⟩ := e3
            generalize (take ⟨t0, t1, t2, t3, M⟩ 3 n).2 = e at e4
            simp [e3, e4, Try.ntmps4, Try.results4]
            refine ⟨by decide +kernel, ?_⟩
            refine CW.call (good _ _ _ _ _ _ _ _ _) (fun _ _ => by simp [Try.call19]) rfl rfl rfl (by first | exact .inl rfl | exact .inr ⟨_, _, rfl, by simp []⟩) rfl rfl rfl (CW.runOps 300 rfl ?_)
            simp [hg, Try.ntmps4, Try.results4]
            refine CW.call (sound _ _ _ _ _) (fun _ _ => by simp [Try.call21]) rfl rfl rfl (by first | exact .inl rfl | exact .inr ⟨_, _, rfl, by simp []⟩) rfl rfl rfl (CW.runOps 300 rfl ?_)
            simp [hs, hy, hw, Try.ntmps4, Try.results4]
            refine ⟨by decide +kernel, ?_⟩
            exact hB _ ⟨k + 1, l0, l1, l2, l3, x0, x1, x2, x3, t0, t1, t2, t3, by omega, ⟨by first | exact i0 | (intro _; omega) | simp, by first | exact i1 | (intro _; omega) | simp, by first | exact i2 | (intro _; omega) | simp, by first | exact i3 | (intro _; omega) | simp, by omega⟩⟩ (Rel.reset' (by simp [resT, bdA, hw]) (by simp [resM, bdB, bdA.bdL, bdA])) (by show l.length - (k + 1) < l.length - k; omega)
  · have hkl : k = l.length := by simp at h; omega
    subst hkl
    simp only [h]
    simp [Try.ntmps4, Try.results4]
    exact Sub.of_eq rfl rfl
end Go.Proofs.Ytipkcdjpaneimaa

