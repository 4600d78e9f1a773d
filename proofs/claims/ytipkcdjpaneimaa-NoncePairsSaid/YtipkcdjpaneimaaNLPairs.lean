/-
  LAYER 13, PROVED: NoncePairs answers true for every input, and its input reads as it did; no further conditions.
-/
import Derived.Test.YtipkcdjpaneimaaNW6
import Derived.Test.YtipkcdjpaneimaaNLaw
set_option linter.unusedSimpArgs false
set_option linter.unusedVariables false
namespace Go.Proofs.Ytipkcdjpaneimaa
open Go.ChangeShapes Go.WideShapes Go.ChangeAt Go.RowKit
open Go.AI

theorem noncePairs_any {W : World} {base : Nat} {args : Array Value} (hn : args.size = 3) (hval : ∀ (j : Nat) t v, Try.f7.params[j]? = some t → args[j]? = some v → Value.okWide Try.prog W .any base t v) :
    Calls Try.prog 7 args W fun e W' => e = .returned (.bool true) ∧ Below W.heap.size W W' := by
  obtain ⟨l⟩ := args
  match l, hn with
  | [v0, v1, v2], _ =>
    obtain ⟨x0, rfl⟩ := int_shape (hval 0 3 v0 (by kernel_rfl) rfl)
    obtain ⟨x1, rfl⟩ := int_shape (hval 1 3 v1 (by kernel_rfl) rfl)
    obtain ⟨x2, rfl⟩ := int_shape (hval 2 3 v2 (by kernel_rfl) rfl)
    exact calls_of_ctp (fun n => n < W.heap.size) (fun _ h => h) (noncePairs x0 x1 x2) rfl
      (RVs.get ⟨rv_v _, rv_v _, rv_v _, trivial⟩)

set_option maxRecDepth 100000 in
theorem noncePairs_lifted (os : Os) (started : os.Started) (H : Type) (enc : TypeId × Value → H) :
    ReturnsInHanded {} Try.checked os 7 .any (Rows.noncePairsSpec.pre6 enc Try.prog Try.f7 Rows.noncePairsRow.domain false) (Rows.noncePairsSpec.post enc Try.prog Try.f7 false true false false) := by
  refine returnsInHanded_of_change (C := Try.checked) ownT started (by kernel_rfl) Try.func7
    (ChangeSpec.witness6 (enc := enc) (C := Try.checked) false ⟨#[], #[.int .i64 0, .int .i64 0, .int .i64 0], []⟩ 8 (by kernel_rfl) (by kernel_rfl) (by kernel_rfl) (by kernel_rfl)) ?_
  intro W base args ds gs before hval0 hW hcnd _
  have hn : args.size = 3 := by
    obtain ⟨p, q, hA, _⟩ := hW
    simpa using (trodAll_length hA).1
  refine (noncePairs_any hn hval0).mono fun e W' ⟨he, hb⟩ => ?_
  subst he
  exact ⟨_, rfl, post_true laidOutT (by decide +kernel) hW rfl (fun ds h => by
    match ds, h with
    | [d0, d1, d2], _ => rfl) (by kernel_rfl) (tb := 4) (by kernel_rfl) hb⟩

theorem noncePairs_holds : Rows.NoncePairsSaid :=
  OpenClaim.holds_of_wide 7 Try.f7 rfl rfl rfl rfl rfl rfl rfl ⟨rfl, rfl, rfl, rfl, rfl⟩ rfl rfl rfl rfl rfl (by kernel_rfl) Try.func7 (by kernel_rfl)
    (of_decide_eq_true (by kernel_rfl)) (by unfold Func.isWrapper; first | (rw [if_pos (by decide +kernel)]; kernel_rfl) | (rw [if_neg (by decide +kernel)]; exact ⟨rfl, rfl⟩))
    (fun os started H enc _ => noncePairs_lifted os started H enc)
end Go.Proofs.Ytipkcdjpaneimaa

