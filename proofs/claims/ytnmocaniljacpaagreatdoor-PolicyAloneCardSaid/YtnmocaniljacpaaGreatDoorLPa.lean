/-
  LAYER 9, PROVED: PolicyAlone answers true for every input, and its input reads as it did; as the given card says it, no further conditions.
-/
import Derived.Test.YtnmocaniljacpaaGreatDoorWf
import Derived.Test.YtnmocaniljacpaaGreatDoorWc
import Derived.Test.YtnmocaniljacpaaGreatDoorWg
import Derived.Lay
import Derived.LaidOnce
import Derived.SevenTiedAt
import Derived.Test.YtnmocaniljacpaaGreatDoorTie
import Derived.Test.YtnmocaniljacpaaGreatDoorCards
import Derived.ProofKit
import Derived.LaidMore
set_option linter.unusedSimpArgs false
set_option linter.unusedVariables false
section
namespace Go.Proofs.YtnmocaniljacpaaGreatDoor
open Go.ChangeShapes Go.WideShapes Go.ChangeAt Go.RowKit
open Go.AI Go.G
set_option maxRecDepth 20000
theorem policyAlone_args {vs : List AV} (h : IsArgs Tryz.prog 20 [24, 29, 37] vs) : CtJ errG Tryz.prog 6 vs [] [] (bool true) [] := by
  obtain ⟨d0, b0, h0, g0, rfl⟩ := h
  obtain ⟨d1, b1, h1, g1, rfl⟩ := g0
  obtain ⟨d2, b2, h2, g2, rfl⟩ := g1
  obtain rfl := g2
  obtain ⟨x0, y0, rfl⟩ := is_store h0
  obtain ⟨x1, y1, rfl⟩ := is_ress h1
  obtain ⟨x2, y2, rfl⟩ := is_keys h2
  have := policyAlone_w x0 x1 x2 y0 y1 y2
  simp only [ag_keys, ag_ress, ag_store]; exact this
theorem policyAlone_any {H : Type} {enc : TypeId × Value → H} {W : World} {base : Nat} {args : Array Value} {ds : List (DataW H)} {ps : List MemPlace} (hg : W.cell? ⟨0, 0, none⟩ = some errV) (hA : DataW.TrodAll enc Tryz.prog W 0 (fun _ => true) true [24, 29, 37] args.toList ds ps)
    (hval : ∀ (j : Nat) t v, Tryz.f6.params[j]? = some t → args[j]? = some v → Value.okWide Tryz.prog W .any base t v) :
    Calls Tryz.prog 6 args W fun e W' => e = .returned (.bool true) ∧ Below W.heap.size W W' := by
  obtain ⟨vs, h1, h2⟩ := trod_args (n := 20) (base := base) hA (by intro t ht; simp at ht; rcases ht with rfl | rfl | rfl <;> kernel_rfl) (fun j t v h3 h4 => hval j t v (by rw [show Tryz.f6.params = #[24, 29, 37] by kernel_rfl]; simpa using h3) (by simpa using h4))
  exact calls_of_ctJ hg (policyAlone_args h1) h2
set_option maxRecDepth 100000 in
theorem policyAlone_lifted (os : Os) (started : os.Started) (H : Type) (enc : TypeId × Value → H) :
    ReturnsInHanded {} Tryz.checked os 6 .any (fun w args => (Rows.policyAloneSpec.pre enc Tryz.prog Tryz.f6 [] false w args ∧ laidMetH Tryz.prog Rows.policyAloneRow.laid w) ∧ sizedMet enc Tryz.prog Tryz.f6 (OpenSpec.ofChange Rows.policyAloneSpec) false w args)
      (Rows.policyAloneSpec.post enc Tryz.prog Tryz.f6 false true false false) := by
  refine returnsInHanded_of_change_and (C := Tryz.checked) (X := fun w _ => laidMetH Tryz.prog Rows.policyAloneRow.laid w) (fun _ _ _ hh h => h.of_heap hh) ownT started (by kernel_rfl) Tryz.func6
    (ChangeSpec.witness_shaped (enc := enc) (C := Tryz.checked) (os := os) (X := fun w _ => laidMetH Tryz.prog Rows.policyAloneRow.laid w) false ((errW os).layVars Tryz.prog (Rows.policyAloneRow.laid.filter fun x => x.2.handleName?.isNone)) #[.agg #[.int .i64 0, .slice none 0 0], .slice none 0 0, .slice none 0 0] 12 (World.layVars_os _ _ _)
      (World.shaped_of_ZipB (by kernel_rfl) (by kernel_rfl)) (by kernel_rfl) (by kernel_rfl) (by kernel_rfl)
      (laidMetH_of_parts (laidMet_errW _ (by kernel_rfl) (by kernel_rfl)) (by kernel_rfl))) ?_
  intro W base args ds gs before hval0 hW _ _ hL _
  obtain ⟨p, q, hA, _⟩ := id hW
  refine (policyAlone_any (err_of_laid (by unfold Rows.policyAloneRow; simp) hL) hA hval0).mono fun e W' ⟨he, hb⟩ => ?_
  subst he
  exact ⟨_, rfl, post_true laidOutT (by decide +kernel) hW rfl (fun ds h => by
    match ds, h with
    | [d0, d1, d2], _ => rfl) (by kernel_rfl) (tb := 4) (by kernel_rfl) hb⟩
theorem policyAlone_row : Rows.PolicyAloneSaid :=
  OpenClaim.holds_of_wide 6 Tryz.f6 rfl rfl rfl rfl rfl rfl rfl ⟨rfl, rfl, rfl, rfl, rfl⟩ rfl rfl rfl rfl rfl (by kernel_rfl) Tryz.func6 (by kernel_rfl)
    (of_decide_eq_true (by kernel_rfl)) (by unfold Func.isWrapper; first | (rw [if_pos (by decide +kernel)]; kernel_rfl) | (rw [if_neg (by decide +kernel)]; exact ⟨rfl, rfl⟩))
    (fun os started H enc _ => policyAlone_lifted os started H enc)
theorem policyAlone_holds : Rows.PolicyAloneCardSaid :=
  Claim7.holds_tied_plain_at .later [] [.data, .handle, .pinned] true (true, "39f09ed73c21a57f48101aefbd881dc5258c1400a46c8e9e049513589b24aa86") true
    policyAlone_row (fun _ h => by cases h) (by kernel_rfl) (fun _ h => by cases h) policyAlone_row_tie rfl ⟨rfl, rfl⟩ (by kernel_rfl) rfl
    (fun f fn hf hfn => by
      obtain rfl : f = 6 := Option.some.inj ((show Tryz.prog.funcNamed "groyne/groynelaw09.PolicyAlone" = some 6 by kernel_rfl).symm.trans hf) |>.symm
      obtain rfl : fn = Tryz.f6 := (Option.some.inj (Tryz.func6.symm.trans hfn)).symm
      exact ⟨by kernel_rfl, fun j t ht => by
        rw [show Tryz.f6.params = #[24, 29, 37] by kernel_rfl] at ht
        have hm : t ∈ [24, 29, 37] := by simpa using Array.mem_of_getElem? ht
        have hall : ([24, 29, 37].all fun u => !Tryz.prog.wantsStandIn u) = true := by kernel_rfl
        exact (show Tryz.prog.wantsStandIn t = false by simpa using List.all_eq_true.1 hall t hm)⟩)
    (by kernel_rfl)
end Go.Proofs.YtnmocaniljacpaaGreatDoor
end
