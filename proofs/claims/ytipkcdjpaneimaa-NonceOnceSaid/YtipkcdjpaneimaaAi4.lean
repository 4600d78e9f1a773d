/-
  A FRAMEWORK OF MY OWN (5): what a row's reading says of the data it reads, slices of structs among them.
-/
import Derived.Test.YtipkcdjpaneimaaAi3
import Derived.Deep.Slices
import Derived.OpenShut
set_option linter.unusedSimpArgs false
set_option linter.unusedVariables false
-- THE BRIDGE FROM A ROW TO A WALK
namespace Go.AI
open Go.ChangeShapes Go.WideShapes Go.ChangeAt Go.RowKit

def covF (P : Program) (c : TypeId → Bool) : Nat → List Field → Option Nat
  | off, [] => some off
  | off, f :: fs => if f.offset = off ∧ c f.type = true then covF P c (off + P.cellsOf f.type) fs else none

/-- Types whose values a row reads as data. -/
def covB (P : Program) : Nat → TypeId → Bool
  | 0, _ => false
  | n + 1, t => match P.underlying t with
    | some .bool => true
    | some (.int _) => true
    | some .string => true
    | some (.slice e) => decide (0 < P.cellsOf e) && covB P n e
    | some (.struct fs) => covF P (covB P n) 0 fs.toList == some (P.cellsOf t)
    | some (.array k e) => decide (k * P.cellsOf e = P.cellsOf t) && covB P n e
    | _ => false

/-- What a type is, as data. -/
inductive Sh where
  | bool | int (k : IntKind) | str | sl (e : TypeId) | st (ts : List TypeId) | arr (k : Nat) (e : TypeId) | no

def shT (P : Program) (t : TypeId) : Sh := match P.underlying t with
  | some .bool => .bool
  | some (.int k) => .int k
  | some .string => .str
  | some (.slice e) => .sl e
  | some (.struct fs) => .st (fs.toList.map (·.type))
  | some (.array k e) => .arr k e
  | _ => .no

def IsF (p : TypeId → List D → Prop) : List TypeId → List D → Prop
  | [], ds => ds = []
  | t :: ts, ds => ∃ a b, p t a ∧ IsF p ts b ∧ ds = a ++ b

/-- The data of a type's values. -/
def Is (P : Program) : Nat → TypeId → List D → Prop
  | 0, _, _ => False
  | n + 1, t, ds => match shT P t with
    | .bool => ∃ b, ds = [.v (.bool b)]
    | .int k => ∃ x, (Lit.int k x).wf = true ∧ ds = [.v (.int k x)]
    | .str => ∃ s : ByteArray, s.size ≤ maxLen ∧ ds = [.v (.string s)]
    | .sl e => ∃ es : List (List D), es.length ≤ maxLen ∧ (∀ c ∈ es, Is P n e c) ∧ ds = [.ro false es]
    | .st ts => IsF (Is P n) ts ds
    | .arr k e => ∃ es : List (List D), es.length = k ∧ (∀ c ∈ es, Is P n e c) ∧ ds = es.flatten
    | .no => False

section
variable {P : Program} {n : Nat} {t e : TypeId} {ds : List D}
theorem is_bool (hs : shT P t = .bool) (h : Is P (n + 1) t ds) : ∃ b, ds = [.v (.bool b)] := by unfold Is at h; rw [hs] at h; exact h
theorem is_int {k : IntKind} (hs : shT P t = .int k) (h : Is P (n + 1) t ds) : ∃ x, (Lit.int k x).wf = true ∧ ds = [.v (.int k x)] := by unfold Is at h; rw [hs] at h; exact h
theorem is_str (hs : shT P t = .str) (h : Is P (n + 1) t ds) : ∃ s : ByteArray, s.size ≤ maxLen ∧ ds = [.v (.string s)] := by unfold Is at h; rw [hs] at h; exact h
theorem is_sl (hs : shT P t = .sl e) (h : Is P (n + 1) t ds) : ∃ es : List (List D), es.length ≤ maxLen ∧ (∀ c ∈ es, Is P n e c) ∧ ds = [.ro false es] := by unfold Is at h; rw [hs] at h; exact h
theorem is_st {ts : List TypeId} (hs : shT P t = .st ts) (h : Is P (n + 1) t ds) : IsF (Is P n) ts ds := by unfold Is at h; rw [hs] at h; exact h
theorem is_arr {k : Nat} (hs : shT P t = .arr k e) (h : Is P (n + 1) t ds) : ∃ es : List (List D), es.length = k ∧ (∀ c ∈ es, Is P n e c) ∧ ds = es.flatten := by unfold Is at h; rw [hs] at h; exact h
theorem isF_nil (h : IsF (Is P n) [] ds) : ds = [] := by unfold IsF at h; exact h
theorem isF_cons {ts : List TypeId} (h : IsF (Is P n) (t :: ts) ds) : ∃ a b, Is P n t a ∧ IsF (Is P n) ts b ∧ ds = a ++ b := by unfold IsF at h; exact h

/-- Elements that are each the cells of something are the cells of a list. -/
theorem is_list {α : Type} {f : α → List D} {p : α → Prop} {q : List D → Prop} (h : ∀ c, q c → ∃ x, p x ∧ c = f x) : ∀ {es : List (List D)}, (∀ c ∈ es, q c) → ∃ l : List α, (∀ x ∈ l, p x) ∧ es = l.map f
  | [], _ => ⟨[], by simp, rfl⟩
  | c :: es, hc => by
    obtain ⟨l, h1, rfl⟩ := is_list (es := es) h (fun c hc' => hc c (by simp [hc']))
    obtain ⟨x, h2, rfl⟩ := h c (hc c (by simp))
    exact ⟨x :: l, by simpa [h2] using h1, rfl⟩
end

theorem list_of {α : Type} {p : Nat → α → Prop} : ∀ (n : Nat), (∀ i, i < n → ∃ x, p i x) → ∃ l : List α, l.length = n ∧ ∀ i x, l[i]? = some x → p i x
  | 0, _ => ⟨[], rfl, fun i x h => by simp at h⟩
  | n + 1, h => by
    obtain ⟨l, h1, h2⟩ := list_of n (fun i hi => h i (by omega))
    obtain ⟨x, hx⟩ := h n (by omega)
    refine ⟨l ++ [x], by simp [h1], fun i y hy => ?_⟩
    by_cases hi : i < l.length
    · exact h2 i y (by rwa [List.getElem?_append_left hi] at hy)
    · rw [List.getElem?_append_right (by omega)] at hy
      have hlt := (List.getElem?_eq_some_iff.1 hy).1
      have e : i = n := by simp at hlt; omega
      subst e
      simp [h1] at hy
      subst hy
      exact hx

/-- Data that say what cells hold. -/
def RDs (w : World) (ds : List D) (cs : List Value) : Prop :=
  ds.length = cs.length ∧ ∀ (i : Nat) d v, ds[i]? = some d → cs[i]? = some v → RD (fun n => n < w.heap.size) w d v ∧ v.oneCell' = true

theorem RDs.one {w : World} {d : D} {v : Value} (h : RD (fun n => n < w.heap.size) w d v) (h1 : v.oneCell' = true) : RDs w [d] [v] := by
  refine ⟨rfl, fun i d' v' h2 h3 => ?_⟩
  cases i with
  | zero => simp at h2 h3; subst h2; subst h3; exact ⟨h, h1⟩
  | succ i => simp at h2

theorem RDs.nil {w : World} : RDs w [] [] := ⟨rfl, fun i d v h _ => by simp at h⟩

theorem RDs.append {w : World} {a b : List D} {c d : List Value} (h1 : RDs w a c) (h2 : RDs w b d) : RDs w (a ++ b) (c ++ d) := by
  refine ⟨by simp [h1.1, h2.1], fun i x y hx hy => ?_⟩
  by_cases hi : i < a.length
  · rw [List.getElem?_append_left hi] at hx
    rw [List.getElem?_append_left (by rw [← h1.1]; exact hi)] at hy
    exact h1.2 i x y hx hy
  · rw [List.getElem?_append_right (by omega)] at hx
    rw [List.getElem?_append_right (by rw [← h1.1]; omega)] at hy
    exact h2.2 _ x y hx (by rw [h1.1]; exact hy)

theorem cell_lt {w : World} {a : Addr} {v : Value} (h : w.cell? a = some v) : a.block < w.heap.size ∧ a.spot = none := by
  unfold World.cell? at h
  split at h
  · rename_i c t fr hw
    refine ⟨(Array.getElem?_eq_some_iff.1 hw).1, ?_⟩
    split at h
    · cases h
    · rename_i hs
      simpa using hs
  · cases h

section
variable {H : Type} {enc : TypeId × Value → H} {P : Program} {w : World} {base : Nat} {held : Bool}

theorem is_take (off k : Nat) (cs : List Value) : (cs.drop off).take k ++ cs.drop (off + k) = cs.drop off := by
  rw [← List.drop_drop]
  exact List.take_append_drop k (cs.drop off)

theorem trod_is : ∀ (n : Nat) (t : TypeId), covB P n t = true → ∀ (fuel : Nat) (cs : List Value) (x : DataW H × List MemPlace), DataW.trod enc P w base (fun _ => true) held fuel t cs = some x → ∃ ds, Is P n t ds ∧ RDs w ds cs := by
  intro n
  induction n with
  | zero => intro t h; simp [covB] at h
  | succ n ih =>
    intro t hc fuel cs x h
    have fields : ∀ (fs : List Field) (off top : Nat), covF P (covB P n) off fs = some top → cs.length = top →
        (∀ f ∈ fs, ∃ m y, DataW.trod enc P w base (fun _ => true) held m f.type ((cs.drop f.offset).take (P.cellsOf f.type)) = some y) → ∃ ds, IsF (Is P n) (fs.map (·.type)) ds ∧ RDs w ds (cs.drop off) := by
      intro fs
      induction fs with
      | nil =>
        intro off top h1 h2 _
        simp only [covF, Option.some.injEq] at h1
        refine ⟨[], by simp [IsF], ?_⟩
        rw [List.drop_eq_nil_of_le (by omega)]
        exact .nil
      | cons f fs ihf =>
        intro off top h1 h2 h3
        simp only [covF] at h1
        split at h1
        case isFalse => cases h1
        rename_i h4
        obtain ⟨b, hb1, hb2⟩ := ihf (off + P.cellsOf f.type) top h1 h2 (fun g hg => h3 g (by simp [hg]))
        obtain ⟨m, y, hy⟩ := h3 f (by simp)
        obtain ⟨a, ha1, ha2⟩ := ih f.type h4.2 m _ y hy
        refine ⟨a ++ b, by rw [List.map_cons]; unfold IsF; exact ⟨a, b, ha1, hb1, rfl⟩, ?_⟩
        rw [h4.1] at ha2
        have := ha2.append hb2
        rwa [is_take] at this
    unfold covB at hc
    unfold Is
    split at hc
    case h_1 hu =>
      rw [show shT P t = .bool by simp only [shT, hu]]
      obtain ⟨b, rfl, _⟩ := DataW.trod_bool hu h
      exact ⟨_, ⟨b, rfl⟩, RDs.one (.v _) rfl⟩
    case h_2 k hu =>
      rw [show shT P t = .int k by simp only [shT, hu]]
      obtain ⟨b, rfl, _, hw⟩ := DataW.trod_int hu h
      exact ⟨_, ⟨b, hw, rfl⟩, RDs.one (.v _) rfl⟩
    case h_3 hu =>
      rw [show shT P t = .str by simp only [shT, hu]]
      obtain ⟨b, rfl, _, hw⟩ := DataW.trod_string hu h
      exact ⟨_, ⟨b, hw, rfl⟩, RDs.one (.v _) rfl⟩
    case h_4 e hu =>
      rw [show shT P t = .sl e by simp only [shT, hu]]
      simp only [Bool.and_eq_true, decide_eq_true_eq] at hc
      rcases Go.Deep.open_slice hu h with ⟨rfl, _⟩ | ⟨a, len, cap, m, k, E, Pl, rfl, hb, hl, hm, hmm, _, hx⟩
      · exact ⟨_, ⟨[], by simp [maxLen], fun c hc => by simp at hc, rfl⟩, RDs.one .nil rfl⟩
      · simp only [if_true] at hmm
        subst hmm
        have hall : ∀ i, i < len → ∃ ds, Is P n e ds ∧ ∃ cs', w.cells? base (a.add (i * P.cellsOf e)) (P.cellsOf e) = some cs' ∧ RDs w ds cs' := fun i hi => by
          obtain ⟨cs', h1, h2⟩ := hx i (by omega)
          obtain ⟨ds, h3, h4⟩ := ih e hc.2 _ _ _ h2
          exact ⟨ds, h3, cs', h1, h4⟩
        obtain ⟨es, he1, he2⟩ := list_of len hall
        refine ⟨_, ⟨es, by omega, fun c hc => ?_, rfl⟩, RDs.one ?_ rfl⟩
        · obtain ⟨i, hi⟩ := List.getElem?_of_mem hc
          exact (he2 i c hi).1
        · rcases Nat.eq_zero_or_pos m with h0 | h0
          · subst h0
            have : len = 0 := by omega
            subst this
            have : es = [] := List.eq_nil_of_length_eq_zero he1
            subst this
            exact .emp
          · obtain ⟨cs0, h1, _⟩ := hx 0 h0
            obtain ⟨_, h2, h3⟩ := World.cells?_some h1
            have h4 := h3 0 hc.1
            obtain ⟨v0, h5⟩ : ∃ v, cs0[0]? = some v := ⟨cs0[0]'(by omega), by simp⟩
            rw [h5] at h4
            simp only [Nat.zero_mul, Addr.add_zero'] at h4
            have h6 := cell_lt h4
            have ha : a = ⟨a.block, a.off, none⟩ := by
              have : a.spot = none := h6.2
              cases a; simp_all
            have key : ∀ i j, i < len → j < P.cellsOf e → w.cell? ⟨a.block, a.off + i * P.cellsOf e + j, none⟩ = some ((w.cell? ⟨a.block, a.off + i * P.cellsOf e + j, none⟩).getD undef) := fun i j hi hj => by
              obtain ⟨ds, _, cs', g1, g2⟩ := hall i hi
              obtain ⟨_, g3, g4⟩ := World.cells?_some g1
              have g5 := g4 j hj
              rw [ha] at g5
              have g6 : ((⟨a.block, a.off, none⟩ : Addr).add (i * P.cellsOf e)).add j = ⟨a.block, a.off + i * P.cellsOf e + j, none⟩ := by rw [Addr.add_lit, Addr.add_lit]
              rw [g6] at g5
              rw [g5, List.getElem?_eq_getElem (by omega)]
              rfl
            have val : ∀ (i : Nat) e' (j : Nat) c, es[i]? = some e' → e'[j]? = some c → i < len ∧ j < P.cellsOf e ∧ RD (fun n => n < w.heap.size) w c ((w.cell? ⟨a.block, a.off + i * P.cellsOf e + j, none⟩).getD undef) ∧ ((w.cell? ⟨a.block, a.off + i * P.cellsOf e + j, none⟩).getD undef).oneCell' = true := by
              intro i e' j c g1 g2
              obtain ⟨_, cs', g3, g4⟩ := he2 i e' g1
              have hi : i < len := by rw [← he1]; exact (List.getElem?_eq_some_iff.1 g1).1
              obtain ⟨_, g5, g6⟩ := World.cells?_some g3
              have hj : j < P.cellsOf e := by rw [← g5, ← g4.1]; exact (List.getElem?_eq_some_iff.1 g2).1
              have g7 := g6 j hj
              rw [ha] at g7
              have g8 : ((⟨a.block, a.off, none⟩ : Addr).add (i * P.cellsOf e)).add j = ⟨a.block, a.off + i * P.cellsOf e + j, none⟩ := by rw [Addr.add_lit, Addr.add_lit]
              rw [g8] at g7
              rw [g7]
              obtain ⟨v, g9⟩ : ∃ v, cs'[j]? = some v := ⟨cs'[j]'(by omega), by simp⟩
              rw [g9]
              exact ⟨hi, hj, g4.2 j c v g2 g9⟩
            rw [ha, ← he1]
            refine .ro (sz := P.cellsOf e) (fun i j => (w.cell? ⟨a.block, a.off + i * P.cellsOf e + j, none⟩).getD undef) h6.1 (fun e' he' => ?_) (by omega) hm (fun h => by cases h) (fun i e' j c g1 g2 => ?_) (fun i e' j c g1 g2 => ?_)
            · obtain ⟨i, hi⟩ := List.getElem?_of_mem he'
              obtain ⟨_, cs', g3, g4⟩ := he2 i e' hi
              rw [g4.1, (World.cells?_some g3).2.1]
            · exact key i j (val i e' j c g1 g2).1 (val i e' j c g1 g2).2.1
            · exact (val i e' j c g1 g2).2.2.1
    case h_5 fs hu =>
      rw [show shT P t = .st (fs.toList.map (·.type)) by simp only [shT, hu]]
      obtain ⟨xs, m, _, _, h1, h2, h3⟩ := DataW.trod_struct hu h
      obtain ⟨ds, h4, h5⟩ := fields fs.toList 0 _ (by simpa using hc) h1 (fun f hf => by
        obtain ⟨i, hi⟩ := List.getElem?_of_mem hf
        have hi' : fs[i]? = some f := by simpa using hi
        have hlt : i < xs.length := by rw [h2]; exact (Array.getElem?_eq_some_iff.1 hi').1
        exact ⟨m, xs[i], by rw [h3 i f hi']; simp⟩)
      exact ⟨ds, h4, by simpa using h5⟩
    case h_6 k e hu =>
      rw [show shT P t = .arr k e by simp only [shT, hu]]
      simp only [Bool.and_eq_true, decide_eq_true_eq] at hc
      obtain ⟨xs, m, _, _, h1, h2, h3⟩ := DataW.trod_array hu h
      have hall : ∀ i, i < k → ∃ ds, Is P n e ds ∧ RDs w ds ((cs.drop (i * P.cellsOf e)).take (P.cellsOf e)) := fun i hi =>
        ih e hc.2 m _ xs[i] (by rw [h3 i hi]; simp)
      obtain ⟨es, he1, he2⟩ := list_of k hall
      refine ⟨es.flatten, ⟨es, he1, fun c hc => ?_, rfl⟩, ?_⟩
      · obtain ⟨i, hi⟩ := List.getElem?_of_mem hc
        exact (he2 i c hi).1
      · have : ∀ (l : List (List D)) (off : Nat), off + l.length = k → (∀ i d, l[i]? = some d → RDs w d ((cs.drop ((off + i) * P.cellsOf e)).take (P.cellsOf e))) → RDs w l.flatten (cs.drop (off * P.cellsOf e)) := by
          intro l
          induction l with
          | nil =>
            intro off h4 _
            rw [List.drop_eq_nil_of_le (by simp at h4; rw [h1, ← hc.1, h4]; exact Nat.le_refl _)]
            exact .nil
          | cons d l ihl =>
            intro off h4 h5
            have h6 := ihl (off + 1) (by simp at h4; omega) (fun i d' hd => by
              have := h5 (i + 1) d' (by simpa using hd)
              rwa [show off + (i + 1) = off + 1 + i by omega] at this)
            have h7 := (h5 0 d rfl).append h6
            rw [show (off + 1) * P.cellsOf e = off * P.cellsOf e + P.cellsOf e by rw [Nat.add_mul]; simp] at h7
            simp only [Nat.add_zero] at h7
            rw [is_take] at h7
            simpa using h7
        have := this es 0 (by omega) (fun i d hd => by simpa using (he2 i d hd).2)
        simpa using this
    case h_7 => cases hc
end
def aggT (P : Program) (t : TypeId) : Bool := match P.underlying t with
  | some (.struct _) => true
  | some (.array _ _) => true
  | _ => false

def argA (g : Bool) (ds : List D) : AV := if g then .agg (ds.map .d) else .d (ds.headD (.v undef))

/-- The arguments of a row's types. -/
def IsArgs (P : Program) (n : Nat) : List TypeId → List AV → Prop
  | [], as => as = []
  | t :: ts, as => ∃ ds bs, Is P n t ds ∧ IsArgs P n ts bs ∧ as = argA (aggT P t) ds :: bs

section
variable {H : Type} {enc : TypeId × Value → H} {P : Program}

theorem arg_rv {W : World} {base n : Nat} {t : TypeId} {v : Value} {ds : List D} (hc : covB P n t = true) (h : RDs W ds v.cells.toList) (hv : Value.okWide P W .any base t v) : RV noN (fun n => n < W.heap.size) W (argA (aggT P t) ds) v := by
  cases n with
  | zero => simp [covB] at hc
  | succ n =>
    have one : ∀ {v : Value}, v.cells = #[v] → RDs W ds v.cells.toList → RV noN (fun n => n < W.heap.size) W (argA false ds) v := fun {v} hv h => by
      rw [hv] at h
      obtain ⟨h1, h2⟩ := h
      match ds, h1 with
      | [d], _ => exact .d (h2 0 d v rfl rfl).1
    have many : ∀ {cs : Array Value}, RDs W ds cs.toList → RV noN (fun n => n < W.heap.size) W (argA true ds) (.agg cs) := fun {cs} h => by
      have : RV noN (fun n => n < W.heap.size) W (.agg (ds.map .d)) (.agg cs.toList.toArray) := .agg (by simp [← h.1]) fun i c x h1 h2 => by
        simp only [List.getElem?_map] at h1
        obtain ⟨d, h3, rfl⟩ := Option.map_eq_some_iff.1 h1
        exact .d (h.2 i d x h3 h2).1
      simpa [argA] using this
    unfold covB at hc
    unfold aggT
    split at hc
    case h_1 hu =>
      obtain ⟨b, rfl⟩ := okWide_bool hu hv
      rw [hu]
      exact one rfl h
    case h_2 k hu =>
      obtain ⟨b, rfl⟩ := okWide_int hu hv
      rw [hu]
      exact one rfl h
    case h_3 hu =>
      obtain ⟨b, rfl⟩ := okWide_string hu hv
      rw [hu]
      exact one rfl h
    case h_4 hu =>
      obtain ⟨a, l, c, rfl⟩ := okWide_slice hu hv
      rw [hu]
      exact one rfl h
    case h_5 hu =>
      simp only [Value.okWide, hu] at hv
      obtain ⟨cs, rfl, _⟩ := hv
      rw [hu]
      exact many (cs := cs) h
    case h_6 hu =>
      simp only [Value.okWide, hu] at hv
      obtain ⟨cs, rfl, _⟩ := hv
      rw [hu]
      exact many (cs := cs) h
    case h_7 => cases hc

theorem trod_args {W : World} {base n : Nat} : ∀ {ts : List TypeId} {vs : List Value} {ds : List (DataW H)} {ps : List MemPlace}, DataW.TrodAll enc P W 0 (fun _ => true) true ts vs ds ps → (∀ t ∈ ts, covB P n t = true) →
    (∀ (j : Nat) t v, ts[j]? = some t → vs[j]? = some v → Value.okWide P W .any base t v) → ∃ as, IsArgs P n ts as ∧ RVs (fun n => n < W.heap.size) W as vs
  | [], [], _, _, _, _, _ => ⟨[], rfl, trivial⟩
  | t :: ts, v :: vs, d :: ds, ps, h, hc, hv => by
    obtain ⟨p, q, ⟨fuel, h1⟩, h2, _⟩ := h
    obtain ⟨bs, h3, h4⟩ := trod_args h2 (fun t ht => hc t (by simp [ht])) (fun j t v h5 h6 => hv (j + 1) t v (by simpa using h5) (by simpa using h6))
    obtain ⟨xs, h5, h6⟩ := trod_is n t (hc t (by simp)) fuel _ _ h1
    exact ⟨_, ⟨xs, bs, h5, h3, rfl⟩, arg_rv (hc t (by simp)) h6 (hv 0 t v rfl rfl), h4⟩
  | [], _ :: _, _, _, h, _, _ => by cases ‹List (DataW H)› <;> exact h.elim
  | _ :: _, [], _, _, h, _, _ => by cases ‹List (DataW H)› <;> exact h.elim
  | _ :: _, _ :: _, [], _, h, _, _ => h.elim

end
end Go.AI
