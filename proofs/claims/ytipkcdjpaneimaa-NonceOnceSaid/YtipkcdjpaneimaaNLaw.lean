/-
  LAYER 13: what the arguments of the laws look like.
-/
import Derived.Test.YtipkcdjpaneimaaNTy
import Derived.Test.YtipkcdjpaneimaaAi3
import Derived.Test.YtipkcdjpaneimaaRows
set_option linter.unusedSimpArgs false
set_option linter.unusedVariables false
namespace Go.Proofs.Ytipkcdjpaneimaa
open Go.ChangeShapes Go.WideShapes Go.ChangeAt Go.RowKit
open Go.AI

theorem ownT : ownKnob Try.prog.godebug = none := by kernel_rfl
theorem laidOutT : laidOutB Try.prog = true := by kernel_rfl

theorem out_shape {W : World} {b : Nat} {v : Value} (h : Value.okWide Try.prog W .any b 25 v) : ∃ a0 a1 a2 a3 b0 b1 b2 b3 m, v = .agg #[.int .i64 a0, .int .i64 a1, .int .i64 a2, .int .i64 a3, .bool b0, .bool b1, .bool b2, .bool b3, .int .i64 m] := by
  obtain ⟨xs, rfl, hl, hc⟩ := flat_cells (ts := [3, 3, 3, 3, 4, 4, 4, 4, 3]) (by kernel_rfl) (by kernel_rfl) (by kernel_rfl) h
  match xs, hl with
  | [x0, x1, x2, x3, x4, x5, x6, x7, x8], _ =>
    obtain ⟨a0, rfl⟩ := cell_int (k := .i64) (by kernel_rfl) (hc 0 3 x0 rfl rfl)
    obtain ⟨a1, rfl⟩ := cell_int (k := .i64) (by kernel_rfl) (hc 1 3 x1 rfl rfl)
    obtain ⟨a2, rfl⟩ := cell_int (k := .i64) (by kernel_rfl) (hc 2 3 x2 rfl rfl)
    obtain ⟨a3, rfl⟩ := cell_int (k := .i64) (by kernel_rfl) (hc 3 3 x3 rfl rfl)
    obtain ⟨b0, rfl⟩ := cell_bool (by kernel_rfl) (hc 4 4 x4 rfl rfl)
    obtain ⟨b1, rfl⟩ := cell_bool (by kernel_rfl) (hc 5 4 x5 rfl rfl)
    obtain ⟨b2, rfl⟩ := cell_bool (by kernel_rfl) (hc 6 4 x6 rfl rfl)
    obtain ⟨b3, rfl⟩ := cell_bool (by kernel_rfl) (hc 7 4 x7 rfl rfl)
    obtain ⟨m, rfl⟩ := cell_int (k := .i64) (by kernel_rfl) (hc 8 3 x8 rfl rfl)
    exact ⟨a0, a1, a2, a3, b0, b1, b2, b3, m, rfl⟩

theorem in_shape {W : World} {b : Nat} {v : Value} (h : Value.okWide Try.prog W .any b 27 v) : ∃ a0 a1 a2 a3 m, v = .agg #[.int .i64 a0, .int .i64 a1, .int .i64 a2, .int .i64 a3, .int .i64 m] := by
  obtain ⟨xs, rfl, hl, hc⟩ := flat_cells (ts := [3, 3, 3, 3, 3]) (by kernel_rfl) (by kernel_rfl) (by kernel_rfl) h
  match xs, hl with
  | [x0, x1, x2, x3, x8], _ =>
    obtain ⟨a0, rfl⟩ := cell_int (k := .i64) (by kernel_rfl) (hc 0 3 x0 rfl rfl)
    obtain ⟨a1, rfl⟩ := cell_int (k := .i64) (by kernel_rfl) (hc 1 3 x1 rfl rfl)
    obtain ⟨a2, rfl⟩ := cell_int (k := .i64) (by kernel_rfl) (hc 2 3 x2 rfl rfl)
    obtain ⟨a3, rfl⟩ := cell_int (k := .i64) (by kernel_rfl) (hc 3 3 x3 rfl rfl)
    obtain ⟨m, rfl⟩ := cell_int (k := .i64) (by kernel_rfl) (hc 4 3 x8 rfl rfl)
    exact ⟨a0, a1, a2, a3, m, rfl⟩

theorem int_shape {W : World} {b : Nat} {v : Value} (h : Value.okWide Try.prog W .any b 3 v) : ∃ n, v = .int .i64 n := okWide_int (k := .i64) (by kernel_rfl) h

end Go.Proofs.Ytipkcdjpaneimaa

