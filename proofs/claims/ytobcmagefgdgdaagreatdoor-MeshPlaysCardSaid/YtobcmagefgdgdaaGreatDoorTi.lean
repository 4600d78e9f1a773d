/-
  THE TIE OF THE LISTED VARIABLES TO THE TEXT: the given tie once more, each closed fact a lemma of its own (as one declaration it wants more memory than a Lean process has here).
-/
import Derived.Test.YtobcmagefgdgdaaGreatDoorRows
import Derived.LaidByTextLater
import Derived.SevenTiedAt
set_option maxHeartbeats 8000000
namespace Go.Proofs.YtobcmagefgdgdaaGreatDoor
open Go
theorem pinM : Tryz.pinned.checked.prog.pinnedFits "unicode/utf8.first" = true := by kernel_rfl
theorem uM_ : Tryz.pinned.checked.prog.headLifts.contains "ownunsafe" = false := by kernel_rfl
theorem fitM : Tryz.pinned.checked.prog.listedFits [("unicode/utf8.first", Rows.laid_unicode_utf8_first), ("unicode/utf8.acceptRanges", Rows.laid_unicode_utf8_acceptRanges), ("errors.errorType", Rows.laid_errors_errorType)] = true := by
  unfold Program.listedFits
  rw [uM_]
  kernel_rfl
theorem tieM : Tryz.prog.laidByTextLater [("unicode/utf8.acceptRanges", Rows.laid_unicode_utf8_acceptRanges), ("errors.errorType", Rows.laid_errors_errorType)] [.data, .handle] true :=
  Program.laidByTextLater_by_run_h 400 8 (by as_aux_lemma => kernel_rfl) (by as_aux_lemma => kernel_rfl) (by as_aux_lemma => kernel_rfl) (by as_aux_lemma => kernel_rfl) (by as_aux_lemma => kernel_rfl) (by as_aux_lemma => kernel_rfl) (fun _ _ => by as_aux_lemma => kernel_rfl) (fun _ _ => by as_aux_lemma => kernel_rfl) (fun _ _ => by as_aux_lemma => kernel_rfl) (fun _ _ => by as_aux_lemma => kernel_rfl)
theorem topModel_rt : Rows.topModelRow.laidByTextAt .later Tryz.pinned [.pinned, .data, .handle] true :=
  OpenClaim.laidByTextAt_pinned rfl rfl tieM rfl rfl rfl rfl (fun y hy _e => by
    simp only [Rows.topModelRow, List.zip_cons_cons, List.zip_nil_right, List.mem_cons, List.mem_nil_iff, or_false] at hy
    rcases hy with rfl | rfl | rfl
    · exact ⟨pinM, by as_aux_lemma => kernel_rfl⟩
    · cases _e
    · cases _e) fitM
theorem meshPlays_rt : Rows.meshPlaysRow.laidByTextAt .later Tryz.pinned [.pinned, .data, .handle] true :=
  OpenClaim.laidByTextAt_pinned rfl rfl tieM rfl rfl rfl rfl (fun y hy _e => by
    simp only [Rows.meshPlaysRow, List.zip_cons_cons, List.zip_nil_right, List.mem_cons, List.mem_nil_iff, or_false] at hy
    rcases hy with rfl | rfl | rfl
    · exact ⟨pinM, by as_aux_lemma => kernel_rfl⟩
    · cases _e
    · cases _e) fitM
end Go.Proofs.YtobcmagefgdgdaaGreatDoor
