/-
  A FRAMEWORK OF MY OWN (4): from a row's reading to a walk, and back.
-/
import Derived.Test.YtipkcdjpaneimaaAi2
import Derived.ProofKit
set_option linter.unusedSimpArgs false
set_option linter.unusedVariables false
-- THE BRIDGE FROM A ROW TO A WALK
namespace Go.AI
open Go.ChangeShapes Go.WideShapes Go.ChangeAt Go.RowKit

section
variable {H : Type} {enc : TypeId × Value → H} {P : Program}

theorem trodAll_below (hl : laidOutB P = true) {W W' : World} (hb : Below W.heap.size W W') :
    ∀ {ts : List TypeId} {vs : List Value} {ds : List (DataW H)} {ps : List MemPlace}, (∀ t ∈ ts, P.readableRec t = true ∧ t < P.types.size) →
      DataW.TrodAll enc P W 0 (fun _ => true) true ts vs ds ps → (∀ x ∈ ps, x.block < W.heap.size) →
      DataW.TrodAll enc P W' 0 (fun b => decide (b < W.heap.size)) true ts vs ds ps
  | [], [], [], _, _, h, _ => h
  | t :: ts, v :: vs, d :: ds, ps, hr, h, hlt => by
    obtain ⟨p, q, h1, h2, rfl⟩ := h
    exact ⟨p, q, Below.trod hl (hr t (by simp)).1 (hr t (by simp)).2 h1 hb (fun x hx => hlt x (by simp [hx])),
      trodAll_below hl hb (fun u hu => hr u (by simp [hu])) h2 (fun x hx => hlt x (by simp [hx])), rfl⟩
  | [], [], _ :: _, _, _, h, _ => h.elim
  | [], _ :: _, _, _, _, h, _ => h.elim
  | _ :: _, [], _, _, _, h, _ => h.elim
  | _ :: _, _ :: _, [], _, _, h, _ => h.elim

theorem trodAll_length {W : World} {b : Nat} {sp : Nat → Bool} {hd : Bool} :
    ∀ {ts : List TypeId} {vs : List Value} {ds : List (DataW H)} {ps : List MemPlace}, DataW.TrodAll enc P W b sp hd ts vs ds ps → vs.length = ts.length ∧ ds.length = ts.length
  | [], [], [], _, _ => ⟨rfl, rfl⟩
  | t :: ts, v :: vs, d :: ds, ps, h => by
    obtain ⟨p, q, h1, h2, rfl⟩ := h
    have := trodAll_length h2
    simp [this.1, this.2]
  | [], [], _ :: _, _, h => h.elim
  | [], _ :: _, _, _, h => h.elim
  | _ :: _, [], _, _, h => h.elim
  | _ :: _, _ :: _, [], _, h => h.elim

theorem post_true {f : Func} {s : ChangeSpec} {apart fresh handsOn : Bool} {W W' : World} {args : Array Value} {ds gs : List (DataW H)} {before : List MemPlace} {tb : TypeId}
    (hl : laidOutB P = true) (hr : ∀ t ∈ f.params.toList, P.readableRec t = true ∧ t < P.types.size) (hW : DataW.Whole enc P f.params.toList s.vars apart W args.toList ds gs before)
    (hv : s.vars = []) (hs : ∀ ds : List (DataW H), ds.length = f.params.size → s.fn H ds = { results := [.lit (.bool true)], args := ds }) (hrt : f.resultTypes = #[tb]) (htb : P.underlying tb = some .bool)
    (hb : Below W.heap.size W W') : s.post enc P f apart fresh handsOn false W args (.bool true) W' := by
  have hW' := hW
  have hlt := hW.lt
  obtain ⟨p, q, hA, hV, rfl, hz, hn⟩ := hW
  rw [hv] at hV
  obtain ⟨rfl, rfl⟩ := trodVars_none hV
  have hlen := (trodAll_length hA).2
  have e := hs ds (by simpa using hlen)
  refine ⟨ds, [], p ++ [], [], p, [], hW', ?_, ?_, ?_, hb.frame _, fun h => by cases h⟩
  · rw [List.append_nil, e, hrt]
    exact trodAll_mk1 (shut_bool htb true)
  · rw [List.append_nil, e]
    exact trodAll_below hl hb hr hA (fun x hx => hlt x (by simpa using hx))
  · rw [List.append_nil, e, hv]
    rfl

theorem below_of_post {I I' : Nat → Prop} {w w' : World} (h : Post noN I w noM 0 noN I' w' noM) : Below w.heap.size w w' :=
  ⟨h.os, h.tape, h.output, h.size, fun k hk => h.frame k hk (by rintro ⟨b, hb⟩; simp_all [noM, noN])⟩

/-- A law that holds: from the walk's contract. -/
theorem calls_of_ctp {f : FuncId} {args : List AV} {W : World} {vs : List Value} (I : Nat → Prop) (hI : ∀ n, I n → n < W.heap.size) (h : CtP P f args (.d (.v (.bool true)))) (hl : vs.length = args.length)
    (hr : ∀ (i : Nat) c x, args[i]? = some c → vs[i]? = some x → RV noN I W c x) :
    Calls P f vs.toArray W fun e W' => e = .returned (.bool true) ∧ Below W.heap.size W W' := by
  refine (h I W vs hI hl hr).mono fun e W' ⟨v, I', he, hp, hv⟩ => ?_
  cases hv with
  | d hd => cases hd with
    | v => exact ⟨he, below_of_post hp⟩
end

section
variable {P : Program} {W : World} {r : Reach} {b : Nat}

theorem flat_cells {t : TypeId} {ts : List TypeId} {v : Value} (hu : (match P.underlying t with | some (.struct _) => true | _ => false) = true) (hct : P.cellTypes P.depth t = some ts) (hn : P.cellsOf t = ts.length)
    (h : Value.okWide P W r b t v) : ∃ xs : List Value, v = .agg xs.toArray ∧ xs.length = ts.length ∧ ∀ (i : Nat) u x, ts[i]? = some u → xs[i]? = some x → Cell.okWide P W r b u x := by
  split at hu
  case h_2 => cases hu
  rename_i fs hu'
  simp only [Value.okWide, hu'] at h
  obtain ⟨cs, rfl, h2, ts', h3, _, h5⟩ := h
  rw [hct] at h3
  cases h3
  refine ⟨cs.toList, by simp, by simp [h2, hn], fun i u x hi hx => ?_⟩
  obtain ⟨u', h6, h7⟩ := h5 i x (by simpa using hx)
  have hlt : i < ts.length := by
    have := List.getElem?_eq_some_iff.1 hi
    exact this.1
  rw [Nat.mod_eq_of_lt hlt, hi] at h6
  cases h6
  exact h7

theorem cell_int {u : TypeId} {k : IntKind} {x : Value} (hu : P.underlying u = some (.int k)) (h : Cell.okWide P W r b u x) : ∃ n, x = .int k n :=
  okWide_int hu (base := b) (w := W) (r := r) (by simp only [Value.okWide, hu]; exact h)

theorem cell_bool {u : TypeId} {x : Value} (hu : P.underlying u = some .bool) (h : Cell.okWide P W r b u x) : ∃ n, x = .bool n :=
  okWide_bool hu (base := b) (w := W) (r := r) (by simp only [Value.okWide, hu]; exact h)
end

def RVs (I : Nat → Prop) (W : World) : List AV → List Value → Prop
  | [], [] => True
  | c :: cs, x :: xs => RV noN I W c x ∧ RVs I W cs xs
  | _, _ => False

theorem RVs.get {I : Nat → Prop} {W : World} : ∀ {cs : List AV} {vs : List Value}, RVs I W cs vs → ∀ (i : Nat) c x, cs[i]? = some c → vs[i]? = some x → RV noN I W c x
  | [], _, _, _, _, _, h, _ => by simp at h
  | _ :: _, [], h, _, _, _, _, _ => h.elim
  | _ :: _, _ :: _, h, 0, c, x, h1, h2 => by
    simp at h1 h2
    subst h1; subst h2
    exact h.1
  | _ :: _, _ :: _, h, i + 1, c, x, h1, h2 => h.2.get i c x (by simpa using h1) (by simpa using h2)

theorem rv_flat {W : World} {I : Nat → Prop} (xs : List Value) : RV noN I W (.agg (xs.map fun x => .d (.v x))) (.agg xs.toArray) := by
  refine .agg (by simp) fun i c x h1 h2 => ?_
  simp only [List.getElem?_map, h2, Option.map_some, Option.some.injEq] at h1
  subst h1
  exact .d (.v _)

theorem rv_v {W : World} {I : Nat → Prop} (x : Value) : RV noN I W (.d (.v x)) x := .d (.v _)
end Go.AI
