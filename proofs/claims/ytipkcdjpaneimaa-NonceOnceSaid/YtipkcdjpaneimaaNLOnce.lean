/-
  LAYER 13, PROVED: NonceOnce answers true for every input, and its input reads as it did; no further conditions.
-/
import Derived.Test.YtipkcdjpaneimaaNW7
import Derived.Test.YtipkcdjpaneimaaNLaw
import Derived.Test.YtipkcdjpaneimaaAi4
set_option linter.unusedSimpArgs false
set_option linter.unusedVariables false
namespace Go.Proofs.Ytipkcdjpaneimaa
open Go.ChangeShapes Go.WideShapes Go.ChangeAt Go.RowKit
open Go.AI

theorem sh3 : shT Try.prog 3 = .int .i64 := by kernel_rfl
theorem sh55 : shT Try.prog 55 = .sl 57 := by kernel_rfl
theorem sh57 : shT Try.prog 57 = .st [3, 3, 3] := by kernel_rfl
theorem ag3 : aggT Try.prog 3 = false := by kernel_rfl
theorem ag55 : aggT Try.prog 55 = false := by kernel_rfl

theorem is_act {c : List D} (h : Is Try.prog 3 57 c) : ∃ x : Int × Int × Int, True ∧ c = actC x := by
  obtain ⟨_, _, h1, g1, rfl⟩ := isF_cons (is_st sh57 h)
  obtain ⟨_, _, h2, g2, rfl⟩ := isF_cons g1
  obtain ⟨_, _, h3, g3, rfl⟩ := isF_cons g2
  obtain rfl := isF_nil g3
  obtain ⟨a, _, rfl⟩ := is_int sh3 h1
  obtain ⟨b, _, rfl⟩ := is_int sh3 h2
  obtain ⟨c, _, rfl⟩ := is_int sh3 h3
  exact ⟨(a, b, c), trivial, rfl⟩

theorem once_args {vs : List AV} (h : IsArgs Try.prog 4 [3, 55] vs) : ∃ m l, vs = [int m, .d (.ro false (List.map actC l))] := by
  obtain ⟨d, b, h1, ⟨d', b', h2, rfl, rfl⟩, rfl⟩ := h
  obtain ⟨m, _, rfl⟩ := is_int sh3 h1
  obtain ⟨es, _, h3, rfl⟩ := is_sl sh55 h2
  obtain ⟨l, _, rfl⟩ := is_list (fun c => is_act) h3
  exact ⟨m, l, by simp [argA, ag3, ag55]⟩

theorem nonceOnce_any {H : Type} {enc : TypeId × Value → H} {W : World} {base : Nat} {args : Array Value} {ds : List (DataW H)} {ps : List MemPlace} (hA : DataW.TrodAll enc Try.prog W 0 (fun _ => true) true [3, 55] args.toList ds ps)
    (hval : ∀ (j : Nat) t v, Try.f4.params[j]? = some t → args[j]? = some v → Value.okWide Try.prog W .any base t v) :
    Calls Try.prog 4 args W fun e W' => e = .returned (.bool true) ∧ Below W.heap.size W W' := by
  obtain ⟨vs, h1, h2⟩ := trod_args (n := 4) (base := base) hA (by intro t ht; simp at ht; rcases ht with rfl | rfl <;> kernel_rfl) (fun j t v h3 h4 => hval j t v (by rw [show Try.f4.params = #[3, 55] by kernel_rfl]; simpa using h3) (by simpa using h4))
  obtain ⟨m, l, rfl⟩ := once_args h1
  have hl : args.toList.length = 2 := (trodAll_length hA).1
  exact calls_of_ctp (fun n => n < W.heap.size) (fun _ h => h) (nonceOnce m l) hl (RVs.get h2)

set_option maxRecDepth 100000 in
theorem nonceOnce_lifted (os : Os) (started : os.Started) (H : Type) (enc : TypeId × Value → H) :
    ReturnsInHanded {} Try.checked os 4 .any (Rows.nonceOnceSpec.pre6 enc Try.prog Try.f4 Rows.nonceOnceRow.domain false) (Rows.nonceOnceSpec.post enc Try.prog Try.f4 false true false false) := by
  refine returnsInHanded_of_change (C := Try.checked) ownT started (by kernel_rfl) Try.func4
    (ChangeSpec.witness6 (enc := enc) (C := Try.checked) false ⟨#[], #[.int .i64 0, .slice none 0 0], []⟩ 8 (by kernel_rfl) (by kernel_rfl) (by kernel_rfl) (by kernel_rfl)) ?_
  intro W base args ds gs before hval0 hW hcnd _
  obtain ⟨p, q, hA, _⟩ := id hW
  refine (nonceOnce_any hA hval0).mono fun e W' ⟨he, hb⟩ => ?_
  subst he
  exact ⟨_, rfl, post_true laidOutT (by decide +kernel) hW rfl (fun ds h => by
    match ds, h with
    | [d0, d1], _ => rfl) (by kernel_rfl) (tb := 4) (by kernel_rfl) hb⟩

theorem nonceOnce_holds : Rows.NonceOnceSaid :=
  OpenClaim.holds_of_wide 4 Try.f4 rfl rfl rfl rfl rfl rfl rfl ⟨rfl, rfl, rfl, rfl, rfl⟩ rfl rfl rfl rfl rfl (by kernel_rfl) Try.func4 (by kernel_rfl)
    (of_decide_eq_true (by kernel_rfl)) (by unfold Func.isWrapper; first | (rw [if_pos (by decide +kernel)]; kernel_rfl) | (rw [if_neg (by decide +kernel)]; exact ⟨rfl, rfl⟩))
    (fun os started H enc _ => nonceOnce_lifted os started H enc)
end Go.Proofs.Ytipkcdjpaneimaa

