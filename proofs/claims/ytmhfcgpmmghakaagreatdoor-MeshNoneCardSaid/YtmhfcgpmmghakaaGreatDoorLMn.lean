/-
  LAYER 24: OF A MESH THAT WAS NOT MADE NOTHING COMES: the law's end.
-/
import Derived.Test.YtmhfcgpmmghakaaGreatDoorWn
import Derived.Lay
import Derived.LaidOnce
import Derived.SevenTiedAt
import Derived.Test.YtmhfcgpmmghakaaGreatDoorTie
import Derived.Test.YtmhfcgpmmghakaaGreatDoorCards
import Derived.ProofKit
import Derived.LaidMore
set_option linter.unusedSimpArgs false
set_option linter.unusedVariables false
namespace Go.Proofs.YtmhfcgpmmghakaaGreatDoor
open Go.ChangeShapes Go.WideShapes Go.ChangeAt Go.RowKit Go.AI Go.G
set_option maxRecDepth 20000
theorem zqk {vs : List AV} (h : qfq Tryz.prog 20 [27, 3] vs) : CtJ errG Tryz.prog 3 vs [] [] (bool true) [] := by
 obtain ⟨d0, b0, h0, g0, rfl⟩ := h
 obtain ⟨d1, b1, h1, g1, rfl⟩ := g0
 obtain rfl := g1
 obtain ⟨x0, y0, rfl⟩ := qhr h0
 obtain ⟨x1, y1, rfl⟩ := is_i h1
 have := zzu x0 x1 y0
 simp only [qro, qi2]; exact this
theorem zs9 {H : Type} {enc : TypeId × Value → H} {W : World} {base : Nat} {args : Array Value} {ds : List (DataW H)} {ps : List MemPlace} (hg : W.cell? ⟨0, 0, none⟩ = some errV) (hA : DataW.TrodAll enc Tryz.prog W 0 (fun _ => true) true [27, 3] args.toList ds ps)
  (hval : ∀ (j : Nat) t v, Tryz.f3.params[j]? = some t → args[j]? = some v → Value.okWide Tryz.prog W .any base t v) :
  Calls Tryz.prog 3 args W fun e W' => e = .returned (.bool true) ∧ Below W.heap.size W W' := by
 obtain ⟨vs, h1, h2⟩ := zru (n := 20) (base := base) hA (by intro t ht; simp at ht; rcases ht with rfl | rfl <;> kernel_rfl) (fun j t v h3 h4 => hval j t v (by rw [show Tryz.f3.params = #[27, 3] by kernel_rfl]; simpa using h3) (by simpa using h4))
 exact zui hg (zqk h1) h2
set_option maxHeartbeats 8000000 in
set_option maxRecDepth 100000 in
theorem zm9 (os : Os) (started : os.Started) (H : Type) (enc : TypeId × Value → H) :
  ReturnsInHanded {} Tryz.checked os 3 .any (fun w args => (Rows.meshNoneSpec.pre enc Tryz.prog Tryz.f3 [] false w args ∧ laidMetH Tryz.prog Rows.meshNoneRow.laid w) ∧ sizedMet enc Tryz.prog Tryz.f3 (OpenSpec.ofChange Rows.meshNoneSpec) false w args)
   (Rows.meshNoneSpec.post enc Tryz.prog Tryz.f3 false true false false) := by
 refine returnsInHanded_of_change_and (C := Tryz.checked) (X := fun w _ => laidMetH Tryz.prog Rows.meshNoneRow.laid w) (fun _ _ _ hh h => h.of_heap hh) ownT started (by as_aux_lemma => kernel_rfl) Tryz.func3
  (ChangeSpec.witness_shaped (enc := enc) (C := Tryz.checked) (os := os) (X := fun w _ => laidMetH Tryz.prog Rows.meshNoneRow.laid w) false ((errW os).layVars Tryz.prog (Rows.meshNoneRow.laid.filter fun x => x.2.handleName?.isNone)) #[.agg #[.int .i64 0, .int .i64 0, .int .i64 0, .int .i64 0, .slice none 0 0, .slice none 0 0, .int .i64 0, .string .empty, .string .empty, .int .i64 0, .int .i64 0], .int .i64 0] 12 (World.layVars_os _ _ _)
    (World.shaped_of_ZipB (by as_aux_lemma => kernel_rfl) (by as_aux_lemma => kernel_rfl)) (by as_aux_lemma => kernel_rfl) (by as_aux_lemma => kernel_rfl) (by as_aux_lemma => kernel_rfl)
    (laidMetH_of_parts (ztq _ (by kernel_rfl) (by kernel_rfl)) (by kernel_rfl))) ?_
 intro W base args ds gs before hval0 hW _ _ hL _
 obtain ⟨p, q, hA, _⟩ := id hW
 refine (zs9 (zv7 (by unfold Rows.meshNoneRow; simp) hL) hA hval0).mono fun e W' ⟨he, hb⟩ => ?_
 subst he
 exact ⟨_, rfl, qct qhq (by decide +kernel) hW rfl (fun ds h => by
  match ds, h with
  | [d0, d1], _ => rfl) (by as_aux_lemma => kernel_rfl) (tb := 4) (by as_aux_lemma => kernel_rfl) hb⟩
set_option maxHeartbeats 8000000 in
theorem zs8 : Rows.MeshNoneSaid :=
 OpenClaim.holds_of_wide 3 Tryz.f3 rfl rfl rfl rfl rfl rfl rfl ⟨rfl, rfl, rfl, rfl, rfl⟩ rfl rfl rfl rfl rfl (by as_aux_lemma => kernel_rfl) Tryz.func3 (by unfold joinedFacts; (repeat' (with_reducible refine Bool.and_eq_true_iff.2 ⟨?_, ?_⟩)); all_goals (as_aux_lemma => kernel_rfl))
  (of_decide_eq_true (by as_aux_lemma => kernel_rfl)) (by unfold Func.isWrapper; first | (rw [if_pos (by decide +kernel)]; kernel_rfl) | (rw [if_neg (by decide +kernel)]; exact ⟨rfl, rfl⟩))
  (fun os started H enc _ => zm9 os started H enc)
set_option maxHeartbeats 8000000 in
theorem meshNone_holds : Rows.MeshNoneCardSaid :=
 Claim7.holds_tied_plain_at .later [] [.data, .handle, .pinned] true (true, "96b4f1e5f3b866e3dc39b460aa4e1227f28e8a1588836f6276ca3be789e54976") true
  zs8 (fun _ h => by cases h) (by as_aux_lemma => kernel_rfl) (fun _ h => by cases h) meshNone_row_tie rfl ⟨rfl, rfl⟩ (by as_aux_lemma => kernel_rfl) rfl
  (fun f fn hf hfn => by
    obtain rfl : f = 3 := Option.some.inj ((show Tryz.prog.funcNamed "groyne/groynelaw24.MeshNone" = some 3 by kernel_rfl).symm.trans hf) |>.symm
    obtain rfl : fn = Tryz.f3 := (Option.some.inj (Tryz.func3.symm.trans hfn)).symm
    exact ⟨by kernel_rfl, fun j t ht => by
     rw [show Tryz.f3.params = #[27, 3] by kernel_rfl] at ht
     have hm : t ∈ [27, 3] := by simpa using Array.mem_of_getElem? ht
     have hall : ([27, 3].all fun u => !Tryz.prog.wantsStandIn u) = true := by kernel_rfl
     exact (show Tryz.prog.wantsStandIn t = false by simpa using List.all_eq_true.1 hall t hm)⟩)
  (by as_aux_lemma => kernel_rfl)
end Go.Proofs.YtmhfcgpmmghakaaGreatDoor
