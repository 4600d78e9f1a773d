/-
  LAYER 13, PROVED: NonceIs answers true for every input, and its input reads as it did; for every start of the operating system's part that the row allows, without further conditions.
-/
import Derived.Test.YtipkcdjpaneimaaNWIs
import Derived.Test.YtipkcdjpaneimaaAi3
set_option linter.unusedSimpArgs false
set_option linter.unusedVariables false
namespace Go.Proofs.Ytipkcdjpaneimaa
open Go.ChangeShapes Go.WideShapes Go.ChangeAt Go.RowKit
open Go.AI

theorem ownT : ownKnob Try.prog.godebug = none := by kernel_rfl
theorem laidOutT : laidOutB Try.prog = true := by kernel_rfl

theorem out_shape {W : World} {b : Nat} {v : Value} (h : Value.okWide Try.prog W .any b 25 v) : ∃ a0 a1 a2 a3 b0 b1 b2 b3 m, v = .agg #[.int .i64 a0, .int .i64 a1, .int .i64 a2, .int .i64 a3, .bool b0, .bool b1, .bool b2, .bool b3, .int .i64 m] := by
  obtain ⟨xs, rfl, hl, hc⟩ := flat_cells (ts := [3, 3, 3, 3, 4, 4, 4, 4, 3]) (by kernel_rfl) (by kernel_rfl) (by kernel_rfl) h
  match xs, hl with
  | [x0, x1, x2, x3, x4, x5, x6, x7, x8], _ =>
    obtain ⟨a0, rfl⟩ := cell_int (k := .i64) (by kernel_rfl) (hc 0 3 x0 rfl rfl)
    obtain ⟨a1, rfl⟩ := cell_int (k := .i64) (by kernel_rfl) (hc 1 3 x1 rfl rfl)
    obtain ⟨a2, rfl⟩ := cell_int (k := .i64) (by kernel_rfl) (hc 2 3 x2 rfl rfl)
    obtain ⟨a3, rfl⟩ := cell_int (k := .i64) (by kernel_rfl) (hc 3 3 x3 rfl rfl)
    obtain ⟨b0, rfl⟩ := cell_bool (by kernel_rfl) (hc 4 4 x4 rfl rfl)
    obtain ⟨b1, rfl⟩ := cell_bool (by kernel_rfl) (hc 5 4 x5 rfl rfl)
    obtain ⟨b2, rfl⟩ := cell_bool (by kernel_rfl) (hc 6 4 x6 rfl rfl)
    obtain ⟨b3, rfl⟩ := cell_bool (by kernel_rfl) (hc 7 4 x7 rfl rfl)
    obtain ⟨m, rfl⟩ := cell_int (k := .i64) (by kernel_rfl) (hc 8 3 x8 rfl rfl)
    exact ⟨a0, a1, a2, a3, b0, b1, b2, b3, m, rfl⟩

theorem in_shape {W : World} {b : Nat} {v : Value} (h : Value.okWide Try.prog W .any b 27 v) : ∃ a0 a1 a2 a3 m, v = .agg #[.int .i64 a0, .int .i64 a1, .int .i64 a2, .int .i64 a3, .int .i64 m] := by
  obtain ⟨xs, rfl, hl, hc⟩ := flat_cells (ts := [3, 3, 3, 3, 3]) (by kernel_rfl) (by kernel_rfl) (by kernel_rfl) h
  match xs, hl with
  | [x0, x1, x2, x3, x8], _ =>
    obtain ⟨a0, rfl⟩ := cell_int (k := .i64) (by kernel_rfl) (hc 0 3 x0 rfl rfl)
    obtain ⟨a1, rfl⟩ := cell_int (k := .i64) (by kernel_rfl) (hc 1 3 x1 rfl rfl)
    obtain ⟨a2, rfl⟩ := cell_int (k := .i64) (by kernel_rfl) (hc 2 3 x2 rfl rfl)
    obtain ⟨a3, rfl⟩ := cell_int (k := .i64) (by kernel_rfl) (hc 3 3 x3 rfl rfl)
    obtain ⟨m, rfl⟩ := cell_int (k := .i64) (by kernel_rfl) (hc 4 3 x8 rfl rfl)
    exact ⟨a0, a1, a2, a3, m, rfl⟩

theorem int_shape {W : World} {b : Nat} {v : Value} (h : Value.okWide Try.prog W .any b 3 v) : ∃ n, v = .int .i64 n := okWide_int (k := .i64) (by kernel_rfl) h

theorem nonceIs_any {W : World} {base : Nat} {args : Array Value} (hn : args.size = 4) (hval : ∀ (j : Nat) t v, Try.f3.params[j]? = some t → args[j]? = some v → Value.okWide Try.prog W .any base t v) :
    Calls Try.prog 3 args W fun e W' => e = .returned (.bool true) ∧ Below W.heap.size W W' := by
  obtain ⟨l⟩ := args
  match l, hn with
  | [v0, v1, v2, v3], _ =>
    obtain ⟨a0, a1, a2, a3, b0, b1, b2, b3, m, rfl⟩ := out_shape (hval 0 25 v0 (by kernel_rfl) rfl)
    obtain ⟨c0, c1, c2, c3, n, rfl⟩ := in_shape (hval 1 27 v1 (by kernel_rfl) rfl)
    obtain ⟨k, rfl⟩ := int_shape (hval 2 3 v2 (by kernel_rfl) rfl)
    obtain ⟨q, rfl⟩ := int_shape (hval 3 3 v3 (by kernel_rfl) rfl)
    exact calls_of_ctp (fun n => n < W.heap.size) (fun _ h => h) (nonceIs a0 a1 a2 a3 b0 b1 b2 b3 m c0 c1 c2 c3 n k q) rfl
      (RVs.get ⟨rv_flat [_, _, _, _, _, _, _, _, _], rv_flat [_, _, _, _, _], rv_v _, rv_v _, trivial⟩)

set_option maxRecDepth 100000 in
theorem nonceIs_lifted (os : Os) (started : os.Started) (H : Type) (enc : TypeId × Value → H) :
    ReturnsInHanded {} Try.checked os 3 .any (Rows.nonceIsSpec.pre6 enc Try.prog Try.f3 Rows.nonceIsRow.domain false) (Rows.nonceIsSpec.post enc Try.prog Try.f3 false true false false) := by
  refine returnsInHanded_of_change (C := Try.checked) ownT started (by kernel_rfl) Try.func3
    (ChangeSpec.witness6 (enc := enc) (C := Try.checked) false ⟨#[], #[.agg #[.int .i64 0, .int .i64 0, .int .i64 0, .int .i64 0, .bool false, .bool false, .bool false, .bool false, .int .i64 0], .agg #[.int .i64 0, .int .i64 0, .int .i64 0, .int .i64 0, .int .i64 0], .int .i64 0, .int .i64 0], []⟩ 8 (by kernel_rfl) (by kernel_rfl) (by kernel_rfl) (by kernel_rfl)) ?_
  intro W base args ds gs before hval0 hW hcnd _
  have hn : args.size = 4 := by
    obtain ⟨p, q, hA, _⟩ := hW
    simpa using (trodAll_length hA).1
  refine (nonceIs_any hn hval0).mono fun e W' ⟨he, hb⟩ => ?_
  subst he
  exact ⟨_, rfl, post_true laidOutT (by decide +kernel) hW rfl (fun ds h => by
    match ds, h with
    | [d0, d1, d2, d3], _ => rfl) (by kernel_rfl) (tb := 4) (by kernel_rfl) hb⟩

theorem nonceIs_holds : Rows.NonceIsSaid :=
  OpenClaim.holds_of_wide 3 Try.f3 rfl rfl rfl rfl rfl rfl rfl ⟨rfl, rfl, rfl, rfl, rfl⟩ rfl rfl rfl rfl rfl (by kernel_rfl) Try.func3 (by kernel_rfl)
    (of_decide_eq_true (by kernel_rfl)) (by unfold Func.isWrapper; first | (rw [if_pos (by decide +kernel)]; kernel_rfl) | (rw [if_neg (by decide +kernel)]; exact ⟨rfl, rfl⟩))
    (fun os started H enc _ => nonceIs_lifted os started H enc)
end Go.Proofs.Ytipkcdjpaneimaa

