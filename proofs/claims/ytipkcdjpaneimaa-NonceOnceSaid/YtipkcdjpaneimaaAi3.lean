/-
  A FRAMEWORK OF MY OWN (4): from a row's reading to a walk, and back.
-/
import Derived.Test.YtipkcdjpaneimaaAi2
import Derived.ProofKit
set_option linter.unusedSimpArgs false
set_option linter.unusedVariables false
-- THE BRIDGE FROM A ROW TO A WALK
namespace Go.AI
open Go.ChangeShapes Go.WideShapes Go.ChangeAt Go.RowKit

section
variable {H : Type} {enc : TypeId × Value → H} {P : Program}

theorem trodAll_below (hl : laidOutB P = true) {W W' : World} (hb : Below W.heap.size W W') :
    ∀ {ts : List TypeId} {vs : List Value} {ds : List (DataW H)} {ps : List MemPlace}, (∀ t ∈ ts, P.readableRec t = true ∧ t < P.types.size) →
      DataW.TrodAll enc P W 0 (fun _ => true) true ts vs ds ps → (∀ x ∈ ps, x.block < W.heap.size) →
      DataW.TrodAll enc P W' 0 (fun b => decide (b < W.heap.size)) true ts vs ds ps
  | [], [], [], _, _, h, _ => h
  | t :: ts, v :: vs, d :: ds, ps, hr, h, hlt => by
    obtain ⟨p, q, h1, h2, rfl⟩ := h
    exact ⟨p, q, Below.trod hl (hr t (by simp)).1 (hr t (by simp)).2 h1 hb (fun x hx => hlt x (by simp [hx])),
      trodAll_below hl hb (fun u hu => hr u (by simp [hu])) h2 (fun x hx => hlt x (by simp [hx])), rfl⟩
  | [], [], _ :: _, _, _, h, _ => h.elim
  | [], _ :: _, _, _, _, h, _ => h.elim
  | _ :: _, [], _, _, _, h, _ => h.elim
  | _ :: _, _ :: _, [], _, _, h, _ => h.elim

theorem trodAll_length {W : World} {b : Nat} {sp : Nat → Bool} {hd : Bool} :
    ∀ {ts : List TypeId} {vs : List Value} {ds : List (DataW H)} {ps : List MemPlace}, DataW.TrodAll enc P W b sp hd ts vs ds ps → vs.length = ts.length ∧ ds.length = ts.length
  | [], [], [], _, _ => ⟨rfl, rfl⟩
  | t :: ts, v :: vs, d :: ds, ps, h => by
    obtain ⟨p, q, h1, h2, rfl⟩ := h
    have := trodAll_length h2
    simp [this.1, this.2]
  | [], [], _ :: _, _, h => h.elim
  | [], _ :: _, _, _, h => h.elim
  | _ :: _, [], _, _, h => h.elim
  | _ :: _, _ :: _, [], _, h => h.elim

theorem post_true {f : Func} {s : ChangeSpec} {apart fresh handsOn : Bool} {W W' : World} {args : Array Value} {ds gs : List (DataW H)} {before : List MemPlace} {tb : TypeId}
    (hl : laidOutB P = true) (hr : ∀ t ∈ f.params.toList, P.readableRec t = true ∧ t < P.types.size) (hW : DataW.Whole enc P f.params.toList s.vars apart W args.toList ds gs before)
    (hv : s.vars = []) (hs : ∀ ds : List (DataW H), ds.length = f.params.size → s.fn H ds = { results := [.lit (.bool true)], args := ds }) (hrt : f.resultTypes = #[tb]) (htb : P.underlying tb = some .bool)
    (hb : Below W.heap.size W W') : s.post enc P f apart fresh handsOn false W args (.bool true) W' := by
  have hW' := hW
  have hlt := hW.lt
  obtain ⟨p, q, hA, hV, rfl, hz, hn⟩ := hW
  rw [hv] at hV
  obtain ⟨rfl, rfl⟩ := trodVars_none hV
  have hlen := (trodAll_length hA).2
  have e := hs ds (by simpa using hlen)
  refine ⟨ds, [], p ++ [], [], p, [], hW', ?_, ?_, ?_, hb.frame _, fun h => by cases h⟩
  · rw [List.append_nil, e, hrt]
    exact trodAll_mk1 (shut_bool htb true)
  · rw [List.append_nil, e]
    exact trodAll_below hl hb hr hA (fun x hx => hlt x (by simpa using hx))
  · rw [List.append_nil, e, hv]
    rfl

theorem below_of_post {I I' : Nat → Prop} {w w' : World} (h : Post noN I w noM 0 noN I' w' noM) : Below w.heap.size w w' :=
  ⟨h.os, h.tape, h.output, h.size, fun k hk => h.frame k hk (by rintro ⟨b, hb⟩; simp_all [noM, noN])⟩

/-- A law that holds: from the walk's contract. -/
theorem calls_of_ctp {f : FuncId} {args : List AV} {W : World} {vs : List Value} (I : Nat → Prop) (hI : ∀ n, I n → n < W.heap.size) (h : CtP P f args (.d (.v (.bool true)))) (hl : vs.length = args.length)
    (hr : ∀ (i : Nat) c x, args[i]? = some c → vs[i]? = some x → RV noN I W c x) :
    Calls P f vs.toArray W fun e W' => e = .returned (.bool true) ∧ Below W.heap.size W W' := by
  refine (h I W vs hI hl hr).mono fun e W' ⟨v, I', he, hp, hv⟩ => ?_
  cases hv with
  | d hd => cases hd with
    | v => exact ⟨he, below_of_post hp⟩
end

section
variable {P : Program} {W : World} {r : Reach} {b : Nat}

theorem flat_cells {t : TypeId} {ts : List TypeId} {v : Value} (hu : (match P.underlying t with | some (.struct _) => true | _ => false) = true) (hct : P.cellTypes P.depth t = some ts) (hn : P.cellsOf t = ts.length)
    (h : Value.okWide P W r b t v) : ∃ xs : List Value, v = .agg xs.toArray ∧ xs.length = ts.length ∧ ∀ (i : Nat) u x, ts[i]? = some u → xs[i]? = some x → Cell.okWide P W r b u x := by
  split at hu
  case h_2 => cases hu
  rename_i fs hu'
  simp only [Value.okWide, hu'] at h
  obtain ⟨cs, rfl, h2, ts', h3, _, h5⟩ := h
  rw [hct] at h3
  cases h3
  refine ⟨cs.toList, by simp, by simp [h2, hn], fun i u x hi hx => ?_⟩
  obtain ⟨u', h6, h7⟩ := h5 i x (by simpa using hx)
  have hlt : i < ts.length := by
    have := List.getElem?_eq_some_iff.1 hi
    exact this.1
  rw [Nat.mod_eq_of_lt hlt, hi] at h6
  cases h6
  exact h7

theorem cell_int {u : TypeId} {k : IntKind} {x : Value} (hu : P.underlying u = some (.int k)) (h : Cell.okWide P W r b u x) : ∃ n, x = .int k n :=
  okWide_int hu (base := b) (w := W) (r := r) (by simp only [Value.okWide, hu]; exact h)

theorem cell_bool {u : TypeId} {x : Value} (hu : P.underlying u = some .bool) (h : Cell.okWide P W r b u x) : ∃ n, x = .bool n :=
  okWide_bool hu (base := b) (w := W) (r := r) (by simp only [Value.okWide, hu]; exact h)
end

def RVs (I : Nat → Prop) (W : World) : List AV → List Value → Prop
  | [], [] => True
  | c :: cs, x :: xs => RV noN I W c x ∧ RVs I W cs xs
  | _, _ => False

theorem RVs.get {I : Nat → Prop} {W : World} : ∀ {cs : List AV} {vs : List Value}, RVs I W cs vs → ∀ (i : Nat) c x, cs[i]? = some c → vs[i]? = some x → RV noN I W c x
  | [], _, _, _, _, _, h, _ => by simp at h
  | _ :: _, [], h, _, _, _, _, _ => h.elim
  | _ :: _, _ :: _, h, 0, c, x, h1, h2 => by
    simp at h1 h2
    subst h1; subst h2
    exact h.1
  | _ :: _, _ :: _, h, i + 1, c, x, h1, h2 => h.2.get i c x (by simpa using h1) (by simpa using h2)

theorem rv_flat {W : World} {I : Nat → Prop} (xs : List Value) : RV noN I W (.agg (xs.map fun x => .d (.v x))) (.agg xs.toArray) := by
  refine .agg (by simp) fun i c x h1 h2 => ?_
  simp only [List.getElem?_map, h2, Option.map_some, Option.some.injEq] at h1
  subst h1
  exact .d (.v _)

theorem rv_v {W : World} {I : Nat → Prop} (x : Value) : RV noN I W (.d (.v x)) x := .d (.v _)
end Go.AI
-- NAMES THAT ARE FORGOTTEN
namespace Go.AI

def bdA (n : Nat) : AV → Bool
  | .d _ => true
  | .any => true
  | .ptr b _ => decide (b < n)
  | .own b => decide (b < n)
  | .prow b _ _ _ => decide (b < n)
  | .sl b _ _ _ _ => decide (b < n)
  | .agg cs => bdL cs
  | .tup cs => bdL cs
  | .fn _ a b => bdL a && bdL b
  | .ifc _ x => bdA n x
where bdL : List AV → Bool
  | [] => true
  | x :: r => bdA n x && bdL r

theorem bdL_get {n : Nat} : ∀ {l : List AV}, bdA.bdL n l = true → ∀ (i : Nat) c, l[i]? = some c → bdA n c = true
  | [], _, i, c, h => by simp at h
  | x :: r, hn, i, c, h => by
    simp only [bdA.bdL, Bool.and_eq_true] at hn
    cases i with
    | zero => simp at h; rw [← h]; exact hn.1
    | succ i => exact bdL_get hn.2 i c (by simpa using h)

def cutN (n : Nat) (σ : Names) : Names := fun b => if b < n then σ b else none

theorem RV_cut {n : Nat} {σ : Names} {I : Nat → Prop} {w : World} {x : AV} {v : Value} (h : RV σ I w x v) (hn : bdA n x = true) : RV (cutN n σ) I w x v := by
  induction h with
  | d h => exact .d h
  | any y => exact .any y
  | ptr h => exact .ptr (by simp only [bdA, decide_eq_true_eq] at hn; simp [cutN, hn, h])
  | own h h1 => exact .own (by simp only [bdA, decide_eq_true_eq] at hn; simp [cutN, hn, h]) h1
  | prow h => exact .prow (by simp only [bdA, decide_eq_true_eq] at hn; simp only [cutN, hn, if_true]; exact h)
  | sl h hc hl => exact .sl (by simp only [bdA, decide_eq_true_eq] at hn; simp only [cutN, hn, if_true]; exact h) hc hl
  | agg hl _ ih =>
    simp only [bdA] at hn
    exact .agg hl (fun i c x h1 h2 => ih i c x h1 h2 (bdL_get hn i c h1))
  | tup hl _ ih =>
    simp only [bdA] at hn
    exact .tup hl (fun i c x h1 h2 => ih i c x h1 h2 (bdL_get hn i c h1))
  | fn hx hy _ _ i1 i2 =>
    simp only [bdA, Bool.and_eq_true] at hn
    exact .fn hx hy (fun i c x h1 h2 => i1 i c x h1 h2 (bdL_get hn.1 i c h1)) (fun i c x h1 h2 => i2 i c x h1 h2 (bdL_get hn.2 i c h1))
  | ifc _ ih =>
    simp only [bdA] at hn
    exact .ifc (ih hn)

def bdB (n : Nat) : Blk → Bool
  | .cells cs _ => bdA.bdL n cs
  | _ => true

theorem RB_cut {n : Nat} {σ : Names} {I : Nat → Prop} {w : World} {k : Blk} {v : Value} (h : RB σ I w k v) (hn : bdB n k = true) : RB (cutN n σ) I w k v := by
  cases h with
  | cells hw hl hr => exact .cells hw hl (fun i c x h1 h2 => RV_cut (hr i c x h1 h2) (bdL_get hn i c h1))
  | none => exact .none
  | grow hw hl hcap hmax hsz hr => exact .grow hw hl hcap hmax hsz hr
  | map hw hl hk hv => exact .map hw hl hk hv

theorem cutN_some {n b : Nat} {σ : Names} {x : Value} (h : cutN n σ b = some x) : σ b = some x := by
  unfold cutN at h
  split at h
  · exact h
  · cases h

/-- One state says less than another, and its counter starts again below: the names from there on are forgotten. -/
theorem Rel.reset {E : Ctx} {x y : X} (ht : ∀ t, lookT y.tm t = .any ∨ (lookT y.tm t = lookT x.tm t ∧ bdA y.nx (lookT y.tm t) = true))
    (hm : ∀ b k, lookM y.mm b = some k → lookM x.mm b = some k ∧ b < y.nx ∧ bdB y.nx k = true) {a : Act} {w : World} (h : Rel E x.den a w) : Rel E y.den a w := by
  obtain ⟨σ, I, h⟩ := h
  refine ⟨cutN y.nx σ, I, h.size, h.dfs, fun t => ?_, ⟨fun b k hb => ?_, fun b b' k k' u u' n h1 h2 h3 h4 h5 h6 => ?_⟩, fun b hb => ?_, h.ib, h.i0, h.inew, fun n hn => ?_, h.os, h.tape, h.output, h.hs, h.frame⟩
  · show RV (cutN y.nx σ) I w (lookT y.tm t) _
    rcases ht t with e | ⟨e, hb⟩
    · rw [e]; exact .any _
    · refine RV_cut ?_ hb
      rw [e]; exact h.tm t
  · obtain ⟨e1, e2, e3⟩ := hm b k hb
    obtain ⟨u, h1, h2, h3⟩ := h.mm.blk b k e1
    exact ⟨u, by simp [cutN, e2, h1], RB_cut h2 e3, h3⟩
  · exact h.mm.apart b b' k k' u u' n (hm b k h1).1 (hm b' k' h2).1 (cutN_some h3) (cutN_some h4) h5 h6
  · have hb' : y.nx ≤ b := hb
    simp only [cutN]
    rw [if_neg (by omega)]
  · obtain ⟨b, k, v, h1, h2, h3⟩ := hn
    exact h.mine n ⟨b, k, v, (hm b k h1).1, cutN_some h2, h3⟩

/-- The slots that are kept. -/
def resT (n : Nat) (xs : List (Nat × AV)) : List (Nat × AV) → Prop
  | [] => True
  | (t, v) :: r => (lookT xs t = v ∧ bdA n v = true) ∧ resT n xs r

def resM (n : Nat) (xs : List (Nat × Option Blk)) : List (Nat × Option Blk) → Prop
  | [] => True
  | (b, k) :: r => (lookM xs b = k ∧ b < n ∧ (∀ k', k = some k' → bdB n k' = true)) ∧ resM n xs r

theorem resT_spec {n : Nat} {xs : List (Nat × AV)} : ∀ {ys : List (Nat × AV)}, resT n xs ys → ∀ t, lookT ys t = .any ∨ (lookT ys t = lookT xs t ∧ bdA n (lookT ys t) = true)
  | [], _, t => .inl (by simp [lookT])
  | (u, v) :: r, h, t => by
    by_cases e : u = t
    · subst e
      exact .inr (by simp [lookT, h.1.1, h.1.2])
    · have := resT_spec h.2 t
      simpa [lookT, e] using this

theorem resM_spec {n : Nat} {xs : List (Nat × Option Blk)} : ∀ {ys : List (Nat × Option Blk)}, resM n xs ys → ∀ b k, lookM ys b = some k → lookM xs b = some k ∧ b < n ∧ bdB n k = true
  | [], _, b, k, h => by simp [lookM] at h
  | (u, v) :: r, h, b, k, hk => by
    by_cases e : u = b
    · subst e
      have : v = some k := by simpa [lookM] using hk
      exact ⟨by rw [h.1.1, this], h.1.2.1, h.1.2.2 k this⟩
    · exact resM_spec h.2 b k (by simpa [lookM, e] using hk)

theorem Rel.reset' {x y : X} (ht : resT y.nx x.tm y.tm) (hm : resM y.nx x.mm y.mm) (E : Ctx) (a : Act) (w : World) (h : Rel E x.den a w) : Rel E y.den a w :=
  Rel.reset (resT_spec ht) (resM_spec hm) h

end Go.AI
