/-
  LAYERS 15 to 20: plans come to their end; sidecars, pins, and how a session and its sidecar meet: plainly.
-/
import Derived.Test.YtbmnaehodmgibaaGreatDoorPs
set_option linter.unusedSimpArgs false
set_option linter.unusedVariables false
section
namespace Go.G
open Go.AI
inductive Rch (l : List Res) : Key → Prop
 | root {r : Res} (h : r ∈ l) (h0 : r.kind = 0) : Rch l r.key
 | step {k : Key} {r : Res} {q : Key} (h : Rch l k) (hr : getR l k = some r) (hq : q ∈ za2 r) (hs : (getR l q).isSome = true) : Rch l q
theorem Rch.some {l : List Res} {k : Key} (h : Rch l k) : (getR l k).isSome = true := by
 cases h with
 | root h h0 => exact mem_keys.1 (List.mem_map.2 ⟨_, h, rfl⟩)
 | step _ _ _ hs => exact hs
theorem zp7 (l : List Res) : ∀ (n : Nat) (out : List Key) (k : Key), (∀ x ∈ out, Rch l x) → ((getR l k).isSome = true → Rch l k) → ∀ x ∈ zay l n out k, Rch l x
 | 0, out, k, h, _, x, hx => h x hx
 | n + 1, out, k, h, hk, x, hx => by
   unfold zay at hx
   split at hx
   ·exact h x hx
   ·rename_i r hr
    split at hx
    ·exact h x hx
    ·have hkk := hk (by rw [hr]; rfl)
     have key : ∀ (m o : List Key), (∀ q ∈ m, q ∈ za2 r) → (∀ x ∈ o, Rch l x) → ∀ x ∈ m.foldl (zay l n) o, Rch l x := by
      intro m
      induction m with
      | nil => exact fun o _ h => h
      | cons q m ih =>
        intro o hm ho
        rw [List.foldl_cons]
        exact ih _ (fun p hp => hm p (by simp [hp])) (zp7 l n o q ho (fun hs => .step hkk hr (hm q (by simp)) hs))
     refine key _ _ (fun _ h => h) (fun y hy => ?_) x hx
     rcases List.mem_append.1 hy with e | e
     ·exact h y e
     ·rw [List.mem_singleton.1 e]; exact hkk
theorem zts {l : List Res} {k : Key} : k ∈ zc9 l ↔ Rch l k := by
 constructor
 ·have key : ∀ (m o : List Key), (∀ q ∈ m, Rch l q) → (∀ x ∈ o, Rch l x) → ∀ x ∈ m.foldl (zay l (l.length + 1)) o, Rch l x := by
   intro m
   induction m with
   | nil => exact fun o _ h => h
   | cons q m ih => intro o hm ho; rw [List.foldl_cons]; exact ih _ (fun p hp => hm p (by simp [hp])) (zp7 l _ o q ho fun _ => hm q (by simp))
  refine key _ _ (fun q hq => ?_) (fun x hx => by simp at hx) k
  obtain ⟨r, hr, rfl⟩ := List.mem_map.1 hq
  obtain ⟨h1, h2⟩ := List.mem_filter.1 hr
  exact .root h1 (by simpa using h2)
 ·intro h
  induction h with
  | root h h0 => exact zqy (List.mem_map.2 ⟨_, List.mem_filter.2 ⟨h, by simpa using h0⟩, rfl⟩)
  | step _ hr hq hs ih => exact zna l _ ih _ hr _ hq hs
theorem mem_reachR {l : List Res} {r : Res} : r ∈ zal l ↔ r ∈ l ∧ Rch l r.key := by
 simp [zal, zts]
theorem served_iff {l : List Res} : zaq l = 0 ↔ ∀ r ∈ l, Rch l r.key → (∀ q ∈ za2 r, (getR l q).isSome = true) ∧ zd6 r = false := by
 unfold zaq
 constructor
 ·intro h r hr hk
  split at h
  ·simp at h
  ·rename_i h1
   split at h
   ·simp at h
   ·rename_i h2
    have hm : r ∈ zal l := mem_reachR.2 ⟨hr, hk⟩
    refine ⟨fun q hq => ?_, ?_⟩
    ·cases e : (getR l q).isSome with
     | true => rfl
     | false => exact absurd (List.any_eq_true.2 ⟨r, hm, List.any_eq_true.2 ⟨q, hq, by simp [noR, e]⟩⟩) h1
    ·cases e : zd6 r with
     | false => rfl
     | true => exact absurd (List.any_eq_true.2 ⟨r, hm, e⟩) h2
 ·intro h
  have h1 : ¬ ((zal l).any fun r => (za2 r).any (noR l)) = true := by
   intro e
   obtain ⟨r, hr, e⟩ := List.any_eq_true.1 e
   obtain ⟨q, hq, e⟩ := List.any_eq_true.1 e
   obtain ⟨h2, h3⟩ := mem_reachR.1 hr
   simp [noR, (h r h2 h3).1 q hq] at e
  have h2 : ¬ (zal l).any zd6 = true := by
   intro e
   obtain ⟨r, hr, e⟩ := List.any_eq_true.1 e
   obtain ⟨h2, h3⟩ := mem_reachR.1 hr
   simp [(h r h2 h3).2] at e
  rw [if_neg h1, if_neg h2]
theorem zl2 {r : Res} {q : Key} (h : q ∈ za2 r) : q.kind = r.kind + 1 := by
 unfold za2 at h
 split at h
 ·rename_i hs
  obtain ⟨_, _, _, h4, _, _⟩ := zeh hs
  rw [zmq] at h
  have hasc : Asc (zjr r) := by unfold zjr; split <;> simp [Asc]
  rw [(zdx _ hasc).2] at h
  rcases h with h | h
  ·unfold zjr at h
   split at h
   ·rw [List.mem_singleton.1 h]
   ·simp at h
  ·obtain ⟨w, hw, rfl⟩ := List.mem_map.1 h
   obtain ⟨x, hx, _⟩ := List.mem_flatMap.1 (List.mem_filter.1 hw).1
   have hne : ¬ r.rules.length = 0 := by intro e; rw [List.eq_nil_of_length_eq_zero e] at hx; simp at hx
   simp only [zfb, mayR, Bool.and_eq_true, Bool.or_eq_true, decide_eq_true_eq] at h4
   have := h4.1.2.resolve_left hne
   simp [this]
 ·simp at h
theorem zu5 {l : List Res} (ha : AscR l) (S : Key → Prop) (h0 : ∀ r ∈ l, r.kind = 0 → S r.key)
  (h1 : ∀ k r, S k → getR l k = some r → (∀ q ∈ za2 r, (getR l q).isSome = true ∧ S q) ∧ zd6 r = false) : zaq l = 0 ∧ ∀ k, Rch l k → S k := by
 have hS : ∀ k, Rch l k → S k := by
  intro k h
  induction h with
  | root h h0' => exact h0 _ h h0'
  | step _ hr hq _ ih => exact ((h1 _ _ ih hr).1 _ hq).2
 refine ⟨served_iff.2 fun r hr hk => ?_, hS⟩
 obtain ⟨h2, h3⟩ := h1 _ r (hS _ hk) (zau ha hr)
 exact ⟨fun q hq => (h2 q hq).1, h3⟩
theorem znx (l : List Res) (n : Int) (k : Key) : getR (zev l n) k = if k.kind = n then getR l k else none := by
 unfold getR zev
 rw [List.find?_filter]
 split
 ·rename_i h
  congr 1
  funext r
  by_cases e : r.key = k
  ·have : r.kind = n := by rw [← h, ← e]; rfl
   simp [e, this]
  ·simp [e]
 ·rename_i h
  rw [List.find?_eq_none]
  intro r _
  simp only [decide_eq_true_eq, Bool.and_eq_true, not_and]
  rintro e rfl
  exact h e
theorem zfw {l : List Res} (h : AscR l) (n : Int) : AscR (zev l n) := zbr h _
structure StepIn (W : List Res) (x : Step) : Prop where
 adds : ∀ r ∈ x.adds, r ∈ W
 asc : AscR x.adds
 gone : ∀ k ∈ x.gone, getR W k = none
theorem zhd {H W : List Res} {x : Step} (hx : StepIn W x) (k : Key) :
  getR (zac H x.adds x.gone) k = match getR x.adds k with | some r => some r | none => if k ∈ x.gone then none else getR H k := by
 rw [zi8, zr7 hx.asc]
 first | done | rfl
theorem zl9 {H W : List Res} {x : Step} (hx : StepIn W x) {r : Res} (hr : r ∈ x.adds) : getR (zac H x.adds x.gone) r.key = some r := by
 rw [zhd hx, zau hx.asc hr]
theorem qcw {H W : List Res} {x : Step} (hw : AscR W) (hx : StepIn W x) {k : Key} {r : Res} (hk : getR W k = some r) :
  (r ∈ x.adds ∧ getR (zac H x.adds x.gone) k = some r) ∨ (getR x.adds k = none ∧ getR (zac H x.adds x.gone) k = getR H k) := by
 rw [zhd hx]
 cases e : getR x.adds k with
 | some y =>
   have h1 := zau hw (hx.adds y (zap e))
   rw [za3 e, hk] at h1
   cases h1
   exact .inl ⟨zap e, rfl⟩
 | none =>
   have : k ∉ x.gone := fun h => by rw [hx.gone k h] at hk; cases hk
   exact .inr ⟨rfl, by simp [this]⟩
theorem zdh {H W : List Res} {x : Step} (hw : AscR W) (hx : StepIn W x) {k : Key} {r : Res} (hk : getR W k = some r) (hh : getR H k = some r) : getR (zac H x.adds x.gone) k = some r := by
 rcases qcw (H := H) hw hx hk with h | h
 ·exact h.2
 ·rw [h.2, hh]
theorem zis {H W : List Res} {x : Step} (hx : StepIn W x) {k : Key} {r : Res} (hk : getR (zac H x.adds x.gone) k = some r) : r ∈ x.adds ∨ (getR x.adds k = none ∧ k ∉ x.gone ∧ getR H k = some r) := by
 rw [zhd hx] at hk
 cases e : getR x.adds k with
 | some y => rw [e] at hk; cases hk; exact .inl (zap e)
 | none =>
   rw [e] at hk
   simp only at hk
   split at hk
   ·cases hk
   ·exact .inr ⟨rfl, by assumption, hk⟩
theorem znn {H W : List Res} {x : Step} (hx : StepIn W x) {k : Key} (ha : ∀ r ∈ x.adds, ¬ r.kind = k.kind) (hg : ∀ q ∈ x.gone, ¬ q.kind = k.kind) : getR (zac H x.adds x.gone) k = getR H k := by
 rw [zhd hx]
 cases e : getR x.adds k with
 | some y => exact absurd (by rw [← za3 e]; rfl) (ha y (zap e))
 | none => simp only; rw [if_neg fun h => hg k h rfl]
def QE (H W : List Res) (n : Int) : Prop := ∀ r ∈ W, r.kind = n → Rch W r.key → getR H r.key = some r
def QL (H W : List Res) (n : Int) : Prop := ∀ r ∈ W, r.kind = n → getR H r.key = some r
def QN (H W : List Res) (n : Int) : Prop := ∀ r ∈ H, r.kind = n → (getR W r.key).isSome = true
def Qp (H W : List Res) : Nat → Prop
 | 0 => QE H W 3
 | 1 => QE H W 2
 | 2 => QE H W 1
 | 3 => QL H W 0 ∧ QN H W 0
 | 4 => QL H W 3
 | 5 => QL H W 2
 | 6 => QL H W 1
 | 7 => QN H W 1
 | 8 => QN H W 2
 | 9 => QN H W 3
 | _ => True
structure Pl (H W : List Res) (held : List Key) : Prop where
 ht : tabE H = 0
 wt : tabE W = 0
 hv : zaq H = 0
 wv : zaq W = 0
 miss : (zmc W).length = 0
 held : ∀ k ∈ held, Rch H k
theorem none_iff {s : Step} : s.none = true ↔ s.adds = [] ∧ s.gone = [] := by
 simp only [Step.none, decide_eq_true_eq]
 constructor
 ·intro h; exact ⟨List.eq_nil_of_length_eq_zero (by omega), List.eq_nil_of_length_eq_zero (by omega)⟩
 ·rintro ⟨h1, h2⟩; simp [h1, h2]
theorem zrp {a b : List Res} {r : Res} : r ∈ zca a b ↔ r ∈ b ∧ ¬ getR a r.key = some r := by simp [zca]
theorem mem_early {H W : List Res} {held : List Key} {n : Int} {r : Res} : r ∈ ((zah H W held).early n).adds ↔ r ∈ W ∧ ¬ getR H r.key = some r ∧ r.kind = n ∧ Rch W r.key := by
 rw [show ((zah H W held).early n).adds = (zev (zca H W) n).filter (fun r => decide (r.key ∈ (zal W).map Res.key)) from rfl, List.mem_filter, mem_kindL, zrp, decide_eq_true_eq, List.mem_map]
 constructor
 ·rintro ⟨⟨⟨h1, h2⟩, h3⟩, y, h4, h5⟩
  exact ⟨h1, h2, h3, h5 ▸ (mem_reachR.1 h4).2⟩
 ·rintro ⟨h1, h2, h3, h4⟩
  exact ⟨⟨⟨h1, h2⟩, h3⟩, r, mem_reachR.2 ⟨h1, h4⟩, rfl⟩
theorem mem_late {H W : List Res} {n : Int} {r : Res} : r ∈ zev (zca H W) n ↔ r ∈ W ∧ ¬ getR H r.key = some r ∧ r.kind = n := by
 simp only [mem_kindL, zrp, and_assoc]
theorem mem_off {H W : List Res} {n : Int} {k : Key} : k ∈ zgm (zda H W) n ↔ (getR H k).isSome = true ∧ getR W k = none ∧ k.kind = n := by
 simp only [mem_kindG, mem_diffG, and_assoc]
theorem early_none {H W : List Res} {held : List Key} {n : Int} : ((zah H W held).early n).none = true ↔ QE H W n := by
 rw [none_iff]
 constructor
 ·rintro ⟨h, _⟩ r hr hk hR
  by_cases e : getR H r.key = some r
  ·exact e
  ·have := mem_early (held := held).2 ⟨hr, e, hk, hR⟩
   rw [h] at this; cases this
 ·intro h
  refine ⟨List.eq_nil_iff_forall_not_mem.2 fun r hr => ?_, rfl⟩
  obtain ⟨h1, h2, h3, h4⟩ := mem_early.1 hr
  exact h2 (h r h1 h3 h4)
theorem late_none {H W : List Res} {held : List Key} {n : Int} : ((zah H W held).late n).none = true ↔ QL H W n := by
 rw [none_iff]
 constructor
 ·rintro ⟨h, _⟩ r hr hk
  by_cases e : getR H r.key = some r
  ·exact e
  ·have := mem_late.2 ⟨hr, e, hk⟩
   simp only [Job.late, zah] at h
   rw [h] at this; cases this
 ·intro h
  refine ⟨List.eq_nil_iff_forall_not_mem.2 fun r hr => ?_, rfl⟩
  obtain ⟨h1, h2, h3⟩ := mem_late.1 hr
  exact h2 (h r h1 h3)
theorem zmk {k : Option Res} : k = none ∨ k.isSome = true := by cases k <;> simp
theorem zj6 {H W : List Res} {held : List Key} {n : Int} (ha : AscR H) : ((zah H W held).doors n).none = true ↔ QL H W n ∧ QN H W n := by
 rw [none_iff]
 constructor
 ·rintro ⟨h, h'⟩
  refine ⟨late_none (held := held).1 (none_iff.2 ⟨h, rfl⟩), fun r hr hk => ?_⟩
  rcases zmk (k := getR W r.key) with e | e
  ·have := mem_off.2 ⟨by rw [zau ha hr]; rfl, e, hk⟩
   simp only [Job.doors, zah] at h'
   rw [h'] at this; cases this
  ·exact e
 ·rintro ⟨h1, h2⟩
  refine ⟨(none_iff.1 (late_none (held := held).2 h1)).1, List.eq_nil_iff_forall_not_mem.2 fun k hk => ?_⟩
  obtain ⟨h3, h4, h5⟩ := mem_off.1 hk
  obtain ⟨r, hr⟩ := Option.isSome_iff_exists.1 h3
  have := h2 r (zap hr) (by rw [← h5, ← za3 hr]; rfl)
  rw [za3 hr, h4] at this; cases this
theorem mem_free {H W : List Res} {held : List Key} {n : Int} {k : Key} : k ∈ ((zah H W held).free n).gone ↔ ((getR H k).isSome = true ∧ getR W k = none ∧ k.kind = n) ∧ k ∉ held ∧ (zc8 H k).length = 0 := by
 simp only [Job.free, zah, List.mem_filter, mem_off, Job.freeK, Bool.not_eq_true', Bool.or_eq_false_iff, decide_eq_false_iff_not]
 constructor
 ·rintro ⟨h1, h2, h3⟩; exact ⟨h1, h2, by omega⟩
 ·rintro ⟨h1, h2, h3⟩; exact ⟨h1, h2, by omega⟩
theorem zf9 {H W : List Res} {held : List Key} {n : Int} (hw : AscR W) : StepIn W ((zah H W held).early n) :=
 ⟨fun r hr => (mem_early.1 hr).1, zbr (zfw (zbr hw _) n) _, fun k hk => by cases hk⟩
theorem zg0 {H W : List Res} {held : List Key} {n : Int} (hw : AscR W) : StepIn W ((zah H W held).late n) :=
 ⟨fun r hr => (mem_late.1 hr).1, zfw (zbr hw _) n, fun k hk => by cases hk⟩
theorem zpe {H W : List Res} {held : List Key} {n : Int} (hw : AscR W) : StepIn W ((zah H W held).doors n) :=
 ⟨fun r hr => (mem_late.1 hr).1, zfw (zbr hw _) n, fun k hk => (mem_off.1 hk).2.1⟩
theorem zic {H W : List Res} {held : List Key} {n : Int} : StepIn W ((zah H W held).free n) :=
 ⟨fun r hr => absurd (show r ∈ ([] : List Res) from hr) (by simp), by show AscR []; simp [AscR, Asc], fun k hk => (mem_free.1 hk).1.2.1⟩
section
variable {H W : List Res} {held : List Key} {x : Step}
theorem ztu (hw : AscR W) (hx : StepIn W x) {n : Int} (h : QE H W n) : QE (zac H x.adds x.gone) W n :=
 fun r hr hk hR => zdh hw hx (zau hw hr) (h r hr hk hR)
theorem zow (hw : AscR W) (hx : StepIn W x) {n : Int} (h : QL H W n) : QL (zac H x.adds x.gone) W n :=
 fun r hr hk => zdh hw hx (zau hw hr) (h r hr hk)
theorem zov (hh : AscR H) (hw : AscR W) (hx : StepIn W x) {n : Int} (h : QN H W n) : QN (zac H x.adds x.gone) W n := by
 intro r hr hk
 rcases zis hx (zau (zbf hh _ _) hr) with e | e
 ·rw [zau hw (hx.adds r e)]; rfl
 ·exact h r (zap e.2.2) hk
theorem qgo (hh : AscR H) (hw : AscR W) (hx : StepIn W x) : ∀ (j : Nat), Qp H W j → Qp (zac H x.adds x.gone) W j
 | 0, h => ztu hw hx h
 | 1, h => ztu hw hx h
 | 2, h => ztu hw hx h
 | 3, h => ⟨zow hw hx h.1, zov hh hw hx h.2⟩
 | 4, h => zow hw hx h
 | 5, h => zow hw hx h
 | 6, h => zow hw hx h
 | 7, h => zov hh hw hx h
 | 8, h => zov hh hw hx h
 | 9, h => zov hh hw hx h
 | _ + 10, _ => trivial
theorem qar {r : Res} (h : zbl r = 0) : r.kind = 0 ∨ r.kind = 1 ∨ r.kind = 2 ∨ r.kind = 3 := rng3 (zeh h).1
theorem zlh (hw : AscR W) (hv : zaq W = 0) {k : Key} {r : Res} (hk : getR W k = some r) (hR : Rch W k) :
  (∀ q ∈ za2 r, (getR W q).isSome = true ∧ Rch W q) ∧ zd6 r = false := by
 have e := za3 hk
 obtain ⟨h1, h2⟩ := served_iff.1 hv r (zap hk) (e ▸ hR)
 exact ⟨fun q hq => ⟨h1 q hq, .step hR hk hq (h1 q hq)⟩, h2⟩
theorem ztl (P : Pl H W held) {n : Int} (h0 : ¬ n = 0) (hn : ∀ j : Int, n < j → j ≤ 3 → QE H W j) (hx : StepIn W x) (hadd : ∀ r, r ∈ x.adds ↔ r ∈ W ∧ ¬ getR H r.key = some r ∧ r.kind = n ∧ Rch W r.key) (hg : x.gone = []) :
  zaq (zac H x.adds x.gone) = 0 := by
 have hw := zai P.wt
 have hh := zai P.ht
 have hk : ∀ k : Key, ¬ k.kind = n → getR (zac H x.adds x.gone) k = getR H k := fun k hk =>
  znn hx (fun r hr e => hk (by rw [← e]; exact ((hadd r).1 hr).2.2.1)) (by simp [hg])
 refine (zu5 (zbf hh _ _) (fun k => (Rch H k ∧ getR (zac H x.adds x.gone) k = getR H k) ∨ (n ≤ k.kind ∧ Rch W k ∧ getR (zac H x.adds x.gone) k = getR W k)) (fun r hr hr0 => ?_) (fun k r hS hr => ?_)).1
 ·have h1 := hk r.key (by rw [show r.key.kind = r.kind from rfl, hr0]; exact fun e => h0 e.symm)
  have h2 := zau (zbf hh x.adds x.gone) hr
  rw [h1] at h2
  exact .inl ⟨.root (zap h2) hr0, h1⟩
 ·rcases hS with ⟨h1, h2⟩ | ⟨h1, h2, h3⟩
  ·rw [hr] at h2
   have h2' := h2.symm
   obtain ⟨h3, h4⟩ := zlh hh P.hv h2' h1
   refine ⟨fun q hq => ?_, h4⟩
   obtain ⟨h5, h6⟩ := h3 q hq
   cases e : getR x.adds q with
   | some y =>
     have h7 : getR (zac H x.adds x.gone) q = some y := by rw [zhd hx, e]
     obtain ⟨g1, g2, g3, g4⟩ := (hadd y).1 (zap e)
     have ek := za3 e
     refine ⟨by rw [h7]; rfl, .inr ⟨?_, ek ▸ g4, ?_⟩⟩
     ·have : q.kind = y.kind := by rw [← ek]; rfl
      omega
     ·rw [h7, ← ek, zau hw g1]
   | none =>
     have h7 : getR (zac H x.adds x.gone) q = getR H q := by rw [zhd hx, e, hg]; simp
     exact ⟨by rw [h7]; exact h5, .inl ⟨h6, h7⟩⟩
  ·rw [hr] at h3
   have h3' := h3.symm
   obtain ⟨h4, h5⟩ := zlh hw P.wv h3' h2
   refine ⟨fun q hq => ?_, h5⟩
   obtain ⟨h6, h7⟩ := h4 q hq
   have hkq := zl2 hq
   have hkr : k.kind = r.kind := by rw [← za3 h3']; rfl
   obtain ⟨y, hy⟩ := Option.isSome_iff_exists.1 h6
   have hym := zap hy
   have hyk : y.kind = q.kind := by rw [← za3 hy]; rfl
   have h8 := qar (zd2 P.wt hym)
   have h9 := hn y.kind (by omega) (by omega) y hym rfl (by rw [za3 hy]; exact h7)
   rw [za3 hy] at h9
   have h10 := zdh hw hx hy h9
   exact ⟨by rw [h10]; rfl, .inr ⟨by omega, h7, by rw [h10, hy]⟩⟩
theorem zha (P : Pl H W held) (hx : StepIn W x) (h1 : QE H W 1) (h2 : QE H W 2) (h3 : QE H W 3)
  (hd : ∀ r ∈ zac H x.adds x.gone, r.kind = 0 → getR W r.key = some r) :
  zaq (zac H x.adds x.gone) = 0 ∧ ∀ k, Rch (zac H x.adds x.gone) k → (getR W k).isSome = true := by
 have hw := zai P.wt
 have hh := zai P.ht
 obtain ⟨g1, g2⟩ := zu5 (zbf hh x.adds x.gone) (fun k => Rch W k ∧ getR (zac H x.adds x.gone) k = getR W k) (fun r hr hr0 => by
   have h4 := hd r hr hr0
   exact ⟨.root (zap h4) hr0, by rw [zau (zbf hh _ _) hr, h4]⟩) (fun k r hS hr => by
   obtain ⟨h4, h5⟩ := hS
   rw [hr] at h5
   have h5' := h5.symm
   obtain ⟨h6, h7⟩ := zlh hw P.wv h5' h4
   refine ⟨fun q hq => ?_, h7⟩
   obtain ⟨h8, h9⟩ := h6 q hq
   have hkq := zl2 hq
   obtain ⟨y, hy⟩ := Option.isSome_iff_exists.1 h8
   have hym := zap hy
   have hyk : y.kind = q.kind := by rw [← za3 hy]; rfl
   have hkr := qar (zd2 P.wt (zap h5'))
   have hky := qar (zd2 P.wt hym)
   have h10 : getR H q = some y := by
    have hR : Rch W y.key := by rw [za3 hy]; exact h9
    have : getR H y.key = some y := by
     rcases hky with e | e | e | e
     ·omega
     ·exact h1 y hym e hR
     ·exact h2 y hym e hR
     ·exact h3 y hym e hR
    rwa [za3 hy] at this
   have h11 := zdh hw hx hy h10
   exact ⟨by rw [h11]; rfl, h9, by rw [h11, hy]⟩)
 exact ⟨g1, fun k hk => (g2 k hk).1.some⟩
end
end Go.G
end
section
namespace Go.G
open Go.AI
theorem qiq {l : List Res} (h1 : l.length ≤ 64) (h2 : ∀ r ∈ l, zbl r = 0) (h3 : AscR l) (h4 : (ze3 l).Nodup) : tabE l = 0 := by
 rw [zjn (by omega) (firstE_zero.2 h2) h3, if_pos h4]
theorem tab_len {l : List Res} (h : tabE l = 0) : l.length ≤ 64 := by
 unfold tabE at h
 split at h
 ·simp at h
 ·omega
theorem znm (l : List Res) : ze3 l = (zev l 0).map Res.port := rfl
theorem zvf {a b : List Res} (ha : AscR a) (hb : AscR b) (h : ∀ k : Key, k.kind = 0 → getR a k = getR b k) : ze3 a = ze3 b := by
 rw [znm, znm]
 have : zev a 0 = zev b 0 := by
  refine zpw (zfw ha 0) (zfw hb 0) fun k => ?_
  rw [znx, znx]
  split
  ·exact h k ‹_›
  ·rfl
 rw [this]
section
variable {H W : List Res} {held : List Key} {x : Step}
theorem zup (hh : AscR H) {m : Int} (hl : QL H W m) (hn : QN H W m) {y : Res} (hy : y ∈ H) (hk : y.kind = m) : getR W y.key = some y := by
 obtain ⟨z, hz⟩ := Option.isSome_iff_exists.1 (hn y hy hk)
 have hzk := za3 hz
 have h1 := hl z (zap hz) (by rw [← hk]; exact congrArg Key.kind hzk)
 rw [hzk, zau hh hy] at h1
 rw [hz, h1]
theorem zfr (P : Pl H W held) (e1 : QE H W 1) (e2 : QE H W 2) (e3 : QE H W 3) (d1 : QL H W 0) (d2 : QN H W 0) {n m : Int} (hm : n = m + 1) (hl : QL H W m) (hn : QN H W m) {k : Key}
  (hk : (getR W k) = none) (hkn : k.kind = n) : k ∉ held ∧ (zc8 H k).length = 0 := by
 have hh := zai P.ht
 have hw := zai P.wt
 constructor
 ·intro h
  have h0 := P.held k h
  have := (zha (x := ⟨0, [], []⟩) P ⟨fun r hr => by simp at hr, by simp [AscR, Asc], fun k hk => by simp at hk⟩ e1 e2 e3 (fun r hr h0 => zup hh d1 d2 hr h0)).2 k h0
  rw [hk] at this; cases this
 ·cases e : zc8 H k with
  | nil => rfl
  | cons q l =>
    have hq : q ∈ zc8 H k := by rw [e]; simp
    obtain ⟨y, hy, _⟩ := List.mem_map.1 hq
    obtain ⟨h1, h2⟩ := List.mem_filter.1 hy
    have h2 : k ∈ za2 y := by simpa using h2
    have h3 := zl2 h2
    have h4 := zup hh hl hn h1 (by omega)
    have := qdl P.miss (zap h4) h2
    rw [hk] at this; cases this
theorem zmp (P : Pl H W held) {n : Int} (hd : ∀ k : Key, getR W k = none → k.kind = n → k ∉ held ∧ (zc8 H k).length = 0) (h : ((zah H W held).free n).none = true) : QN H W n := by
 intro r hr hk
 rcases zmk (k := getR W r.key) with e | e
 ·have h1 : r.key ∈ ((zah H W held).free n).gone := mem_free.2 ⟨⟨by rw [zau (zai P.ht) hr]; rfl, e, hk⟩, hd r.key e hk⟩
  rw [(none_iff.1 h).2] at h1; cases h1
 ·exact e
theorem zj4 (P : Pl H W held) {n : Int} (hd : ∀ k : Key, getR W k = none → k.kind = n → k ∉ held ∧ (zc8 H k).length = 0) : QN (zac H ((zah H W held).free n).adds ((zah H W held).free n).gone) W n := by
 intro r hr hk
 have hh := zai P.ht
 rcases zmk (k := getR W r.key) with e | e
 ·rcases zis (zic (held := held)) (zau (zbf hh _ _) hr) with h | h
  ·cases h
  ·exact absurd (mem_free.2 ⟨⟨by rw [h.2.2]; rfl, e, hk⟩, hd r.key e hk⟩) h.2.1
 ·exact e
theorem ztt (P : Pl H W held) {n : Int} (h : QN H W n) : ((zah H W held).free n).none = true := by
 rw [none_iff]
 refine ⟨rfl, List.eq_nil_iff_forall_not_mem.2 fun k hk => ?_⟩
 obtain ⟨⟨h1, h2, h3⟩, _⟩ := mem_free.1 hk
 obtain ⟨r, hr⟩ := Option.isSome_iff_exists.1 h1
 have := h r (zap hr) (by rw [← h3]; exact congrArg Key.kind (za3 hr))
 rw [za3 hr, h2] at this; cases this
theorem zie (hw : AscR W) {n : Int} : QE (zac H ((zah H W held).early n).adds ((zah H W held).early n).gone) W n := by
 intro r hr hk hR
 by_cases e : getR H r.key = some r
 ·exact zdh hw (zf9 hw) (zau hw hr) e
 ·exact zl9 (zf9 hw) (mem_early.2 ⟨hr, e, hk, hR⟩)
theorem zjx (hw : AscR W) {n : Int} : QL (zac H ((zah H W held).late n).adds ((zah H W held).late n).gone) W n := by
 intro r hr hk
 by_cases e : getR H r.key = some r
 ·exact zdh hw (zg0 hw) (zau hw hr) e
 ·exact zl9 (zg0 hw) (mem_late.2 ⟨hr, e, hk⟩)
theorem zjb (hw : AscR W) {k : Key} (hk : k.kind = 0) : getR (zac H ((zah H W held).doors 0).adds ((zah H W held).doors 0).gone) k = getR W k := by
 have hx := zpe (H := H) (held := held) (n := 0) hw
 cases e : getR W k with
 | some r =>
   have ek := za3 e
   by_cases e' : getR H k = some r
   ·exact zdh hw hx e e'
   ·have : r ∈ ((zah H W held).doors 0).adds := mem_late.2 ⟨zap e, by rw [ek]; exact e', by rw [← hk]; exact congrArg Key.kind ek⟩
    rw [← ek]; exact zl9 hx this
 | none =>
   cases e' : getR (zac H ((zah H W held).doors 0).adds ((zah H W held).doors 0).gone) k with
   | none => rfl
   | some r =>
     rcases zis hx e' with h | h
     ·have := zau hw (hx.adds r h)
      rw [← za3 e', this] at e; cases e
     ·exact absurd (mem_off.2 ⟨by rw [h.2.2]; rfl, e, hk⟩) h.2.1
structure StepGood (H W : List Res) (x : Step) (i : Nat) : Prop where
 inn : StepIn W x
 serv : zaq (zac H x.adds x.gone) = 0
 ports : (ze3 (zac H x.adds x.gone)).Nodup
 now : Qp (zac H x.adds x.gone) W i
 not : ¬ Qp H W i
theorem zjt (P : Pl H W held) (hx : StepIn W x) (ha : ∀ r ∈ x.adds, ¬ r.kind = 0) (hg : ∀ q ∈ x.gone, ¬ q.kind = 0) : (ze3 (zac H x.adds x.gone)).Nodup := by
 have hh := zai P.ht
 rw [zvf (zbf hh _ _) hh fun k hk => znn hx (by rw [hk]; exact ha) (by rw [hk]; exact hg)]
 exact zqb P.ht
theorem zj2 (P : Pl H W held) {n : Int} (h0 : ¬ n = 0) (hn : ∀ j : Int, n < j → j ≤ 3 → QE H W j) :
  zaq (zac H ((zah H W held).early n).adds ((zah H W held).early n).gone) = 0 ∧ (ze3 (zac H ((zah H W held).early n).adds ((zah H W held).early n).gone)).Nodup :=
 ⟨ztl P h0 hn (zf9 (zai P.wt)) (fun _ => mem_early) rfl, zjt P (zf9 (zai P.wt)) (fun r hr e => h0 (by rw [← e]; exact (mem_early.1 hr).2.2.1.symm)) (fun q hq => by cases hq)⟩
theorem zkn (P : Pl H W held) (hx : StepIn W x) (d1 : QL H W 0) (d2 : QN H W 0) : ∀ r ∈ zac H x.adds x.gone, r.kind = 0 → getR W r.key = some r := by
 intro r hr h0
 have hh := zai P.ht
 rcases zis hx (zau (zbf hh _ _) hr) with h | h
 ·exact zau (zai P.wt) (hx.adds r h)
 ·exact zup hh d1 d2 (zap h.2.2) h0
theorem zmn (P : Pl H W held) (e1 : QE H W 1) (e2 : QE H W 2) (e3 : QE H W 3) (d : QL H W 0 ∧ QN H W 0) {n : Int} (h0 : ¬ n = 0) :
  zaq (zac H ((zah H W held).late n).adds ((zah H W held).late n).gone) = 0 ∧ (ze3 (zac H ((zah H W held).late n).adds ((zah H W held).late n).gone)).Nodup :=
 ⟨(zha P (zg0 (zai P.wt)) e1 e2 e3 (zkn P (zg0 (zai P.wt)) d.1 d.2)).1, zjt P (zg0 (zai P.wt)) (fun r hr e => h0 (by rw [← e]; exact (mem_late.1 hr).2.2.symm)) (fun q hq => by cases hq)⟩
theorem zmo (P : Pl H W held) (e1 : QE H W 1) (e2 : QE H W 2) (e3 : QE H W 3) (d : QL H W 0 ∧ QN H W 0) {n : Int} (h0 : ¬ n = 0) :
  zaq (zac H ((zah H W held).free n).adds ((zah H W held).free n).gone) = 0 ∧ (ze3 (zac H ((zah H W held).free n).adds ((zah H W held).free n).gone)).Nodup :=
 ⟨(zha P zic e1 e2 e3 (zkn P zic d.1 d.2)).1, zjt P zic (fun r hr => by cases hr) (fun q hq e => h0 (by rw [← e]; exact (mem_free.1 hq).1.2.2.symm))⟩
theorem zxx (P : Pl H W held) (e1 : QE H W 1) (e2 : QE H W 2) (e3 : QE H W 3) :
  zaq (zac H ((zah H W held).doors 0).adds ((zah H W held).doors 0).gone) = 0 ∧ (ze3 (zac H ((zah H W held).doors 0).adds ((zah H W held).doors 0).gone)).Nodup := by
 have hw := zai P.wt
 have hh := zai P.ht
 refine ⟨(zha P (zpe hw) e1 e2 e3 fun r hr h0 => ?_).1, ?_⟩
 ·rw [← zjb (H := H) (held := held) hw (k := r.key) h0]; exact zau (zbf hh _ _) hr
 ·rw [zvf (zbf hh _ _) hw fun k hk => zjb hw hk]
  exact zqb P.wt
theorem zul (hh : AscR H) (hw : AscR W) : Qp (zac H ((zah H W held).doors 0).adds ((zah H W held).doors 0).gone) W 3 := by
 refine ⟨fun r hr hk => ?_, fun r hr hk => ?_⟩
 ·rw [zjb hw (k := r.key) hk]; exact zau hw hr
 ·rw [← zjb (H := H) (held := held) hw (k := r.key) hk, zau (zbf hh _ _) hr]; rfl
theorem zy0 (P : Pl H W held) (h : zeq H W held = some x) : ∃ i, i < 10 ∧ (∀ j, j < i → Qp H W j) ∧ StepGood H W x i := by
 have hw := zai P.wt
 have hh := zai P.ht
 obtain ⟨hx, i, hi, he, hj⟩ := List.find?_eq_some_iff_getElem.1 h
 have hx' : ¬ x.none = true := by simpa using hx
 have hi' : i < 10 := hi
 have hb : ∀ j (hj' : j < i), ((zah H W held).steps[j]'(Nat.lt_trans hj' hi)).none = true := fun j hj' => by simpa using hj j hj'
 have c : i = 0 ∨ i = 1 ∨ i = 2 ∨ i = 3 ∨ i = 4 ∨ i = 5 ∨ i = 6 ∨ i = 7 ∨ i = 8 ∨ i = 9 := by omega
 have q0 : 0 < i → QE H W 3 := fun h => early_none.1 (hb 0 h)
 have q1 : 1 < i → QE H W 2 := fun h => early_none.1 (hb 1 h)
 have q2 : 2 < i → QE H W 1 := fun h => early_none.1 (hb 2 h)
 have q3 : 3 < i → QL H W 0 ∧ QN H W 0 := fun h => (zj6 hh).1 (hb 3 h)
 have q4 : 4 < i → QL H W 3 := fun h => late_none.1 (hb 4 h)
 have q5 : 5 < i → QL H W 2 := fun h => late_none.1 (hb 5 h)
 have q6 : 6 < i → QL H W 1 := fun h => late_none.1 (hb 6 h)
 have d7 : 6 < i → ∀ k : Key, getR W k = none → k.kind = 1 → k ∉ held ∧ (zc8 H k).length = 0 := fun h k hk hkn =>
  zfr P (q2 (by omega)) (q1 (by omega)) (q0 (by omega)) (q3 (by omega)).1 (q3 (by omega)).2 (m := 0) rfl (q3 (by omega)).1 (q3 (by omega)).2 hk hkn
 have q7 : 7 < i → QN H W 1 := fun h => zmp P (d7 (by omega)) (hb 7 h)
 have d8 : 7 < i → ∀ k : Key, getR W k = none → k.kind = 2 → k ∉ held ∧ (zc8 H k).length = 0 := fun h k hk hkn =>
  zfr P (q2 (by omega)) (q1 (by omega)) (q0 (by omega)) (q3 (by omega)).1 (q3 (by omega)).2 (m := 1) rfl (q6 (by omega)) (q7 (by omega)) hk hkn
 have q8 : 8 < i → QN H W 2 := fun h => zmp P (d8 (by omega)) (hb 8 h)
 have d9 : 8 < i → ∀ k : Key, getR W k = none → k.kind = 3 → k ∉ held ∧ (zc8 H k).length = 0 := fun h k hk hkn =>
  zfr P (q2 (by omega)) (q1 (by omega)) (q0 (by omega)) (q3 (by omega)).1 (q3 (by omega)).2 (m := 2) rfl (q5 (by omega)) (q8 (by omega)) hk hkn
 refine ⟨i, hi', fun j hj' => ?_, ?_⟩
 ·have : j = 0 ∨ j = 1 ∨ j = 2 ∨ j = 3 ∨ j = 4 ∨ j = 5 ∨ j = 6 ∨ j = 7 ∨ j = 8 := by omega
  rcases this with e | e | e | e | e | e | e | e | e <;> subst e
  ·exact q0 hj'
  ·exact q1 hj'
  ·exact q2 hj'
  ·exact q3 hj'
  ·exact q4 hj'
  ·exact q5 hj'
  ·exact q6 hj'
  ·exact q7 hj'
  ·exact q8 hj'
 ·rcases c with e | e | e | e | e | e | e | e | e | e <;> subst e
  ·have he : (zah H W held).early 3 = x := he
   subst he
   obtain ⟨g1, g2⟩ := zj2 P (n := 3) (by decide) (fun j h1 h2 => by omega)
   exact ⟨zf9 hw, g1, g2, zie hw, fun h => hx' (early_none.2 h)⟩
  ·have he : (zah H W held).early 2 = x := he
   subst he
   obtain ⟨g1, g2⟩ := zj2 P (n := 2) (by decide) (fun j h1 h2 => by obtain rfl : j = 3 := by omega
                                                                    exact q0 (by omega))
   exact ⟨zf9 hw, g1, g2, zie hw, fun h => hx' (early_none.2 h)⟩
  ·have he : (zah H W held).early 1 = x := he
   subst he
   obtain ⟨g1, g2⟩ := zj2 P (n := 1) (by decide) (fun j h1 h2 => by
    have : j = 2 ∨ j = 3 := by omega
    rcases this with e | e <;> subst e
    ·exact q1 (by omega)
    ·exact q0 (by omega))
   exact ⟨zf9 hw, g1, g2, zie hw, fun h => hx' (early_none.2 h)⟩
  ·have he : (zah H W held).doors 0 = x := he
   subst he
   obtain ⟨g1, g2⟩ := zxx P (q2 (by omega)) (q1 (by omega)) (q0 (by omega))
   exact ⟨zpe hw, g1, g2, zul hh hw, fun h => hx' ((zj6 hh).2 h)⟩
  ·have he : (zah H W held).late 3 = x := he
   subst he
   obtain ⟨g1, g2⟩ := zmn P (q2 (by omega)) (q1 (by omega)) (q0 (by omega)) (q3 (by omega)) (n := 3) (by decide)
   exact ⟨zg0 hw, g1, g2, zjx hw, fun h => hx' (late_none.2 h)⟩
  ·have he : (zah H W held).late 2 = x := he
   subst he
   obtain ⟨g1, g2⟩ := zmn P (q2 (by omega)) (q1 (by omega)) (q0 (by omega)) (q3 (by omega)) (n := 2) (by decide)
   exact ⟨zg0 hw, g1, g2, zjx hw, fun h => hx' (late_none.2 h)⟩
  ·have he : (zah H W held).late 1 = x := he
   subst he
   obtain ⟨g1, g2⟩ := zmn P (q2 (by omega)) (q1 (by omega)) (q0 (by omega)) (q3 (by omega)) (n := 1) (by decide)
   exact ⟨zg0 hw, g1, g2, zjx hw, fun h => hx' (late_none.2 h)⟩
  ·have he : (zah H W held).free 1 = x := he
   subst he
   obtain ⟨g1, g2⟩ := zmo P (q2 (by omega)) (q1 (by omega)) (q0 (by omega)) (q3 (by omega)) (n := 1) (by decide)
   exact ⟨zic, g1, g2, zj4 P (d7 (by omega)), fun h => hx' (ztt P h)⟩
  ·have he : (zah H W held).free 2 = x := he
   subst he
   obtain ⟨g1, g2⟩ := zmo P (q2 (by omega)) (q1 (by omega)) (q0 (by omega)) (q3 (by omega)) (n := 2) (by decide)
   exact ⟨zic, g1, g2, zj4 P (d8 (by omega)), fun h => hx' (ztt P h)⟩
  ·have he : (zah H W held).free 3 = x := he
   subst he
   obtain ⟨g1, g2⟩ := zmo P (q2 (by omega)) (q1 (by omega)) (q0 (by omega)) (q3 (by omega)) (n := 3) (by decide)
   exact ⟨zic, g1, g2, zj4 P (d9 (by omega)), fun h => hx' (ztt P h)⟩
theorem zz2 (P : Pl H W held) (h : zeq H W held = none) : H = W := by
 have hw := zai P.wt
 have hh := zai P.ht
 have hb : ∀ s ∈ (zah H W held).steps, s.none = true := fun s hs => by simpa using List.find?_eq_none.1 h s hs
 simp only [Job.steps, List.mem_cons, List.not_mem_nil, or_false, forall_eq_or_imp, forall_eq] at hb
 obtain ⟨b0, b1, b2, b3, b4, b5, b6, b7, b8, b9⟩ := hb
 have q0 := early_none.1 b0
 have q1 := early_none.1 b1
 have q2 := early_none.1 b2
 have q3 := (zj6 hh).1 b3
 have q4 := late_none.1 b4
 have q5 := late_none.1 b5
 have q6 := late_none.1 b6
 have q7 : QN H W 1 := zmp P (fun k hk hkn => zfr P q2 q1 q0 q3.1 q3.2 (m := 0) rfl q3.1 q3.2 hk hkn) b7
 have q8 : QN H W 2 := zmp P (fun k hk hkn => zfr P q2 q1 q0 q3.1 q3.2 (m := 1) rfl q6 q7 hk hkn) b8
 have q9 : QN H W 3 := zmp P (fun k hk hkn => zfr P q2 q1 q0 q3.1 q3.2 (m := 2) rfl q5 q8 hk hkn) b9
 refine zpw hh hw fun k => ?_
 cases e : getR W k with
 | some r =>
   have ek := za3 e
   rcases qar (zd2 P.wt (zap e)) with h | h | h | h
   ·have := q3.1 r (zap e) h; rwa [ek] at this
   ·have := q6 r (zap e) h; rwa [ek] at this
   ·have := q5 r (zap e) h; rwa [ek] at this
   ·have := q4 r (zap e) h; rwa [ek] at this
 | none =>
   cases e' : getR H k with
   | none => rfl
   | some r =>
     exfalso
     have ek := za3 e'
     have : (getR W r.key).isSome = true := by
      rcases qar (zd2 P.ht (zap e')) with h | h | h | h
      ·exact q3.2 r (zap e') h
      ·exact q7 r (zap e') h
      ·exact q8 r (zap e') h
      ·exact q9 r (zap e') h
     rw [ek, e] at this; cases this
theorem zl7 (P : Pl H W held) {U : List Key} (hU : U.length ≤ 64) (hH : ∀ r ∈ H, r.key ∈ U) (hW : ∀ r ∈ W, r.key ∈ U) (h : zeq H W held = some x) :
  tabE (zac H x.adds x.gone) = 0 ∧ zaq (zac H x.adds x.gone) = 0 ∧ (∀ r ∈ zac H x.adds x.gone, r.key ∈ U) ∧
   ∀ n, (∀ j, j < n → Qp H W j) → n < 10 ∧ ∀ j, j < n + 1 → Qp (zac H x.adds x.gone) W j := by
 have hw := zai P.wt
 have hh := zai P.ht
 obtain ⟨i, hi, hb, G⟩ := zy0 P h
 have ha := zbf hh x.adds x.gone
 have hm : ∀ r ∈ zac H x.adds x.gone, r ∈ H ∨ r ∈ W := fun r hr => (zmd hr).imp_right (G.inn.adds r)
 have hu : ∀ r ∈ zac H x.adds x.gone, r.key ∈ U := fun r hr => (hm r hr).elim (hH r) (hW r)
 have hl : (zac H x.adds x.gone).length ≤ 64 := by
  have := zf8 (zs3 ha) (b := U) (fun k hk => by obtain ⟨r, hr, rfl⟩ := List.mem_map.1 hk; exact hu r hr)
  rw [List.length_map] at this; omega
 refine ⟨qiq hl (fun r hr => (hm r hr).elim (zd2 P.ht) (zd2 P.wt)) ha G.ports, G.serv, hu, fun n hn => ?_⟩
 have hin : n ≤ i := Nat.le_of_not_lt fun h => G.not (hn i h)
 refine ⟨by omega, fun j hj => ?_⟩
 by_cases e : j = i
 ·subst e; exact G.now
 ·exact qgo hh hw G.inn j (hb j (by omega))
end
end Go.G
end
section
namespace Go.G
open Go.AI
structure Cache where
 cap : Int
 l : List Res
 deriving DecidableEq
@[simp] def zcs (c : Cache) : List D := [iD c.cap, lD (c.l.map resC)]
def newC (n : Int) : Cache := ⟨capN n, []⟩
def zdc (cap : Int) (l : List Res) : Int := if ¬ tabE l = 0 then tabE l else if cap < l.length then 8 else zaq l
def zh4 (c : Cache) : Bool := decide (c.cap = capN c.cap) && decide (zdc c.cap c.l = 0)
def zdd (c : Cache) : Cache := if zh4 c then c else newC c.cap
def zhy (c : Cache) (adds : List Res) (gone : List Key) : Cache × Int :=
 if zdc c.cap (zac c.l adds gone) = 0 then (⟨c.cap, zac c.l adds gone⟩, 0) else (c, zdc c.cap (zac c.l adds gone))
def zd8 (c : Cache) (adds : List Res) (gone : List Key) : Cache × Int := zhy (zdd c) adds gone
def zd7 (c : Cache) : List Res := zal (zdd c).l
structure Warm where
 c : Cache
 ready : Bool
 shown : List Res
 deriving DecidableEq
@[simp] def zp6 (w : Warm) : List D := zcs w.c ++ [bD w.ready, lD (w.shown.map resC)]
def newW (n : Int) : Warm := ⟨newC n, false, []⟩
def zf0 (w : Warm) : Bool := zh4 w.c && decide (w.shown = zd7 w.c) && (w.ready || decide (w.shown.length = 0))
def zds (w : Warm) : Warm := if zf0 w then w else newW w.c.cap
def zgk (w : Warm) (c : Cache) : Warm × Bool :=
 if zd7 c = w.shown then (⟨c, w.ready, w.shown⟩, false) else (⟨c, true, zd7 c⟩, true)
def zgg (w : Warm) (adds : List Res) (gone : List Key) : Warm × Bool × Int :=
 if ¬ (zd8 w.c adds gone).2 = 0 then (w, false, (zd8 w.c adds gone).2)
 else ((zgk w (zd8 w.c adds gone).1).1, (zgk w (zd8 w.c adds gone).1).2, 0)
def zdr (w : Warm) (adds : List Res) (gone : List Key) : Warm × Bool × Int := zgg (zds w) adds gone
structure Snap where
 id : Int
 pins : Int
 l : List Res
 deriving DecidableEq
@[simp] def zdu (s : Snap) : List D := [iD s.id, iD s.pins, lD (s.l.map resC)]
structure Pins where
 next : Int
 snaps : List Snap
 deriving DecidableEq
@[simp] def zl8 (p : Pins) : List D := [iD p.next, lD (p.snaps.map zdu)]
def zb8 (next : Int) : Int → List Snap → Bool
 | _, [] => true
 | a, s :: r => decide (a + 1 ≤ s.id) && decide (s.id ≤ next) && decide ((if r = [] then 0 else 1) ≤ s.pins) && decide (s.pins ≤ 10000) && zb8 next s.id r
def zf1 (p : Pins) : Bool := zb8 p.next 0 p.snaps && rngB p.next 2147483647 && decide (p.snaps.length ≤ 1000)
def zbz (p : Pins) : Pins := if zf1 p then p else ⟨0, []⟩
def zua (p : Pins) : List Snap := p.snaps.filter fun s => !decide (s.pins = 0)
def zct (p : Pins) (l : List Res) : Pins × Int × Int :=
 if p.next = 2147483647 then (p, 0, 14) else if 1000 ≤ (zua p).length then (p, 0, 8)
 else (⟨p.next + 1, zua p ++ [⟨p.next + 1, 0, l⟩]⟩, p.next + 1, 0)
def zby (p : Pins) (l : List Res) : Pins × Int × Int := zct (zbz p) l
def curP (p : Pins) : Option Snap := (zbz p).snaps.getLast?
def qd1 (p : Pins) : List Key := ((p.snaps.flatMap (·.l)).map Res.key).foldl putK []
def zc4 (p : Pins) : List Key := qd1 (zbz p)
@[simp] def nnC' (i : Nonce.Nn) : List D := [iD i.l0, iD i.l1, iD i.l2, iD i.l3, iD i.m]
structure Errs where
 (e0 e1 e2 e3 : Int)
 deriving DecidableEq
@[simp] def xad (e : Errs) : List D := [iD e.e0, iD e.e1, iD e.e2, iD e.e3]
def Errs.get (e : Errs) (k : Int) : Int := if k = 0 then e.e0 else if k = 1 then e.e1 else if k = 2 then e.e2 else e.e3
def Errs.set (e : Errs) (k v : Int) : Errs := if k = 0 then { e with e0 := v } else if k = 1 then { e with e1 := v } else if k = 2 then { e with e2 := v } else { e with e3 := v }
def zax (n : Int) : Bool := !rngB n 15
structure Side where
 epoch : Int
 turn : Int
 up : Bool
 inn : Nonce.Nn
 errs : Errs
 w : Warm
 p : Pins
 deriving DecidableEq
@[simp] def zd9 (s : Side) : List D := [iD s.epoch, iD s.turn, bD s.up] ++ nnC' s.inn ++ xad s.errs ++ zp6 s.w ++ zl8 s.p
def newX (limit most : Int) : Side := ⟨0, 0, false, Nonce.startI most, ⟨0, 0, 0, 0⟩, newW limit, ⟨0, []⟩⟩
def zor (p : Pins) : Bool := decide (za6 ⟨3, 0, 0, 0, 0, [], [], 0, [], zc4 p⟩ = 0)
def zcn (s : Side) : Bool := match curP s.p with
 | none => !s.w.ready
 | some c => s.w.ready && decide (c.l = s.w.shown)
def zck (s : Side) : Bool :=
 (rngB s.epoch 2147483647 && rngB s.turn 2147483647 && !(zax s.errs.e0 || zax s.errs.e1 || zax s.errs.e2 || zax s.errs.e3))
   && Nonce.soundB s.inn && zf0 s.w && zf1 s.p && zor s.p && zcn s
def zco (s : Side) : Side := if zck s then s else newX s.w.c.cap s.inn.m
def zhq (s : Side) : Bool := decide (s.turn = 2147483647)
def zcv (s : Side) : Side := { s with turn := s.turn + 1 }
def ze5 (s : Side) : Frame := ⟨0, s.epoch, 0, 0, 0, [], [], 0, zch s.w.c.l, []⟩
def zhw (s : Side) : Frame := ⟨3, s.epoch, 0, 0, s.turn, [], [], 0, [], zc4 s.p⟩
def zcd (s : Side) (epoch : Int) : Side × List Frame × Int :=
 if epoch ≤ s.epoch ∨ 2147483647 < epoch then (s, [], 11) else if zhq s then (s, [], 14)
 else let t : Side := zcv { s with epoch := epoch, up := true, inn := Nonce.startI s.inn.m, errs := ⟨0, 0, 0, 0⟩ }
  (t, [ze5 t, zhw t], 0)
def zaz (s : Side) (epoch : Int) : Side × List Frame × Int := zcd (zco s) epoch
def zbm (s : Side) (f : Frame) : Int :=
 if s.up = false then 12 else if ¬ za6 f = 0 then za6 f else if ¬ f.epoch = s.epoch then 11 else if ¬ f.type = 1 then 15 else 0
def ackX (s : Side) (f : Frame) : Side × List Frame :=
 (zcv s, [⟨2, f.epoch, f.kind, f.nonce, s.turn + 1, [], [], s.errs.get f.kind, [], zc4 s.p⟩])
def zfa (s : Side) (f : Frame) : Side × Int :=
 let w := zdr s.w f.adds f.gone
 let q := zby s.p w.1.shown
 if w.2.1 = true ∧ ¬ q.2.2 = 0 then (s, q.2.2) else
 let p := if w.2.1 = true then q.1 else s.p
 if zor p = false then ({ s with errs := s.errs.set f.kind 8 }, 0)
 else ({ s with w := w.1, p := p, errs := s.errs.set f.kind w.2.2 }, 0)
def zfz (s : Side) (f : Frame) : Side × List Frame × Int :=
 if ¬ zbm s f = 0 then (s, [], zbm s f) else
 let i := Nonce.take s.inn f.kind f.nonce
 if i.2 = 0 then
  if zhq s then (s, [], 14) else
  if ¬ (zfa s f).2 = 0 then (s, [], (zfa s f).2) else
  let t := { (zfa s f).1 with inn := i.1 }
  if zhq s then (s, [], 14) else ((ackX t f).1, (ackX t f).2, 0)
 else if i.2 = 9 then
  if zhq s then (s, [], 14) else ((ackX s f).1, (ackX s f).2, 9)
 else (s, [], i.2)
def zgu (s : Side) (f : Frame) : Side × List Frame × Int := zfz (zco s) f
def znh (s : Side) : Option Snap := curP (zco s).p
end Go.G
end
section
namespace Go.G
open Go.AI
theorem must_iff {cap : Int} {l : List Res} : zdc cap l = 0 ↔ tabE l = 0 ∧ (l.length : Int) ≤ cap ∧ zaq l = 0 := by
 unfold zdc
 constructor
 ·intro h
  split at h
  ·rename_i h1; exact absurd h h1
  ·rename_i h1
   split at h
   ·simp at h
   ·rename_i h2; exact ⟨Decidable.not_not.1 h1, by omega, h⟩
 ·rintro ⟨h1, h2, h3⟩
  rw [if_neg (by simp [h1]), if_neg (by omega), h3]
theorem saneC_iff {c : Cache} : zh4 c = true ↔ c.cap = capN c.cap ∧ tabE c.l = 0 ∧ (c.l.length : Int) ≤ c.cap ∧ zaq c.l = 0 := by
 simp only [zh4, Bool.and_eq_true, decide_eq_true_eq, must_iff]
theorem zqp (n : Int) : zh4 (newC n) = true := by
 rw [saneC_iff]
 have := zpq n
 exact ⟨(zji n).symm, show tabE [] = 0 by decide +kernel, by simp [newC, this.1], znj⟩
theorem zh1 (c : Cache) : zh4 (zdd c) = true := by
 unfold zdd
 split
 ·assumption
 ·exact zqp _
theorem zem {c : Cache} (h : zh4 c = true) : zdd c = c := by simp [zdd, h]
theorem zyi (c : Cache) (a : List Res) (g : List Key) : zh4 (zd8 c a g).1 = true := by
 have h := zh1 c
 unfold zd8 zhy
 split
 ·rename_i h1
  rw [saneC_iff] at h ⊢
  exact ⟨h.1, must_iff.1 h1⟩
 ·exact h
theorem zzo : zal [] = [] := rfl
theorem zqn (n : Int) : zf0 (newW n) = true := by
 have h := zqp n
 simp only [zf0, newW, zd7, zem h, h, Bool.true_and, Bool.and_eq_true, Bool.or_eq_true, decide_eq_true_eq]
 exact ⟨by simp [newC, zzo], .inr rfl⟩
theorem ztj (w : Warm) : zf0 (zds w) = true := by
 unfold zds
 split
 ·assumption
 ·exact zqn _
theorem zqf {w : Warm} (h : zf0 w = true) : zds w = w := by simp [zds, h]
theorem saneW_iff {w : Warm} : zf0 w = true ↔ zh4 w.c = true ∧ w.shown = zal w.c.l ∧ (w.ready = true ∨ w.shown = []) := by
 simp only [zf0, Bool.and_eq_true, Bool.or_eq_true, decide_eq_true_eq, List.length_eq_zero_iff, and_assoc]
 constructor
 ·rintro ⟨h1, h2, h3⟩; exact ⟨h1, by simpa [zd7, zem h1] using h2, h3⟩
 ·rintro ⟨h1, h2, h3⟩; exact ⟨h1, by simpa [zd7, zem h1] using h2, h3⟩
theorem zqc (w : Warm) (a : List Res) (g : List Key) : zf0 (zdr w a g).1 = true := by
 have h := ztj w
 unfold zdr zgg
 split
 ·exact h
 ·have h1 := zyi (zds w).c a g
  have h2 := saneW_iff.1 h
  unfold zgk
  split
  ·rename_i h3
   rw [saneW_iff]
   simp only [zd7, zem h1] at h3
   exact ⟨h1, h3.symm, h2.2.2⟩
  ·rw [saneW_iff]
   exact ⟨h1, by simp [zd7, zem h1], .inl rfl⟩
theorem qbe {l : List Res} : rngB (zb9 l) 15 = true := by
 unfold zb9
 split
 ·rename_i r _
  unfold zbl
  (repeat' split) <;> simp [rngB]
 ·simp [rngB]
theorem qf0 (l : List Res) : rngB (tabE l) 15 = true := by
 unfold tabE
 (repeat' split) <;> first | exact qbe | simp [rngB]
theorem zw8 (l : List Res) : rngB (zaq l) 15 = true := by
 unfold zaq
 (repeat' split) <;> simp [rngB]
theorem qdj (cap : Int) (l : List Res) : rngB (zdc cap l) 15 = true := by
 unfold zdc
 (repeat' split) <;> first | exact qf0 _ | exact zw8 _ | simp [rngB]
theorem qb2 (c : Cache) (a : List Res) (g : List Key) : rngB (zd8 c a g).2 15 = true := by
 unfold zd8 zhy
 split
 ·simp [rngB]
 ·exact qdj _ _
theorem zy1 (w : Warm) (a : List Res) (g : List Key) : rngB (zdr w a g).2.2 15 = true := by
 unfold zdr zgg
 split
 ·exact qb2 _ _ _
 ·simp [rngB]
theorem ztm {n : Int} : ∀ {l : List Snap} {a b : Int}, b ≤ a → zb8 n a l = true → zb8 n b l = true
 | [], _, _, _, _ => rfl
 | s :: r, a, b, h, hs => by
   simp only [zb8, Bool.and_eq_true, decide_eq_true_eq] at hs ⊢
   exact ⟨⟨⟨⟨by omega, hs.1.1.1.2⟩, hs.1.1.2⟩, hs.1.2⟩, hs.2⟩
theorem zh3 {n : Int} (L : List Res) : ∀ {l : List Snap} {a : Int}, a ≤ n → zb8 n a l = true → zb8 (n + 1) a ((l.filter fun s => !decide (s.pins = 0)) ++ [⟨n + 1, 0, L⟩]) = true
 | [], a, ha, _ => by
   simp only [List.filter_nil, List.nil_append, zb8, Bool.and_eq_true, decide_eq_true_eq, if_true, and_true]
   omega
 | s :: r, a, ha, hs => by
   simp only [zb8, Bool.and_eq_true, decide_eq_true_eq] at hs
   obtain ⟨⟨⟨⟨h1, h2⟩, h3⟩, h4⟩, h5⟩ := hs
   by_cases hp : s.pins = 0
   ·simp only [List.filter_cons, hp, decide_true, Bool.not_true, Bool.false_eq_true, if_false]
    exact zh3 L ha (ztm (by omega) h5)
   ·simp only [List.filter_cons, hp, decide_false, Bool.not_false, if_true, List.cons_append, zb8, Bool.and_eq_true, decide_eq_true_eq]
    have h3' : 1 ≤ s.pins := by
     split at h3 <;> omega
    refine ⟨⟨⟨⟨h1, by omega⟩, ?_⟩, h4⟩, zh3 L h2 h5⟩
    rw [if_neg (by simp)]; exact h3'
theorem saneP_iff {p : Pins} : zf1 p = true ↔ zb8 p.next 0 p.snaps = true ∧ 0 ≤ p.next ∧ p.next ≤ 2147483647 ∧ p.snaps.length ≤ 1000 := by
 simp only [zf1, rngB, Bool.and_eq_true, decide_eq_true_eq, and_assoc]
theorem zqo : zf1 ⟨0, []⟩ = true := rfl
theorem zh0 (p : Pins) : zf1 (zbz p) = true := by
 unfold zbz
 split
 ·assumption
 ·exact zqo
theorem zfe {p : Pins} (h : zf1 p = true) : zbz p = p := by simp [zbz, h]
theorem ze2 (p : Pins) (l : List Res) : zf1 (zby p l).1 = true := by
 have h := zh0 p
 unfold zby zct
 split
 ·exact h
 ·rename_i h1
  split
  ·exact h
  ·rename_i h2
   rw [saneP_iff] at h ⊢
   refine ⟨zh3 l h.2.1 h.1, by simp only; omega, by simp only; omega, ?_⟩
   simp only [List.length_append, List.length_singleton]; omega
theorem ztv {p : Pins} {l : List Res} (h : (zby p l).2.2 = 0) : ∃ s, curP (zby p l).1 = some s ∧ s.l = l := by
 have h0 := ze2 p l
 unfold curP
 rw [zfe h0]
 unfold zby zct at h ⊢
 split at h
 ·simp at h
 ·rename_i h1
  split at h
  ·simp at h
  ·rename_i h2
   rw [if_neg h1, if_neg h2]
   exact ⟨⟨(zbz p).next + 1, 0, l⟩, by simp, rfl⟩
theorem room_iff {p : Pins} : zor p = true ↔ (zc4 p).length ≤ 64 ∧ ∀ k ∈ zc4 p, okK k = true := by
 have := drain_ok (v := ⟨[], zc4 p, 0, zFrame, false⟩)
 simp only [zor, decide_eq_true_eq]
 simp only [zdz] at this
 rw [this]
 simp [rngB]
theorem zwy {i : Nonce.Nn} (h : Nonce.soundB i = true) (k n : Int) : Nonce.soundB (Nonce.take i k n).1 = true := by
 obtain ⟨a, b, c, d, m⟩ := i
 simp only [Nonce.take, Nonce.inF, h, if_true]
 unfold Nonce.takeQ
 split
 ·exact h
 ·split
  ·exact h
  ·split
   ·exact h
   ·rename_i h1
    simp only [Nonce.Nn.set, Nonce.Nn.last, Nonce.soundB_mk] at h h1 ⊢
    (repeat' split at h1) <;> (repeat' split) <;> simp only [Nonce.soundB_mk] <;> omega
theorem zln (n : Int) : Nonce.soundB (Nonce.startI n) = true := by
 have := Nonce.bnd_ok n
 simp only [Nonce.startI, Nonce.soundB_mk]
 omega
structure SaneX (s : Side) : Prop where
 epoch : rngB s.epoch 2147483647 = true
 turn : rngB s.turn 2147483647 = true
 errs : zax s.errs.e0 = false ∧ zax s.errs.e1 = false ∧ zax s.errs.e2 = false ∧ zax s.errs.e3 = false
 inn : Nonce.soundB s.inn = true
 w : zf0 s.w = true
 p : zf1 s.p = true
 room : zor s.p = true
 agrees : zcn s = true
theorem saneX_iff {s : Side} : zck s = true ↔ SaneX s := by
 simp only [zck, Bool.and_eq_true, Bool.not_eq_true', Bool.or_eq_false_iff]
 constructor
 ·rintro ⟨⟨⟨⟨⟨⟨⟨h1, h2⟩, h3⟩, h4⟩, h5⟩, h6⟩, h7⟩, h8⟩
  exact ⟨h1, h2, ⟨h3.1.1.1, h3.1.1.2, h3.1.2, h3.2⟩, h4, h5, h6, h7, h8⟩
 ·intro h
  obtain ⟨g1, g2, g3, g4⟩ := h.errs
  exact ⟨⟨⟨⟨⟨⟨⟨h.epoch, h.turn⟩, ⟨⟨⟨g1, g2⟩, g3⟩, g4⟩⟩, h.inn⟩, h.w⟩, h.p⟩, h.room⟩, h.agrees⟩
theorem zv0 : zc4 ⟨0, []⟩ = [] := rfl
theorem zfh (l m : Int) : zck (newX l m) = true := by
 rw [saneX_iff]
 exact ⟨rfl, rfl, ⟨rfl, rfl, rfl, rfl⟩, zln m, zqn l, zqo, room_iff.2 ⟨by rw [show (newX l m).p = ⟨0, []⟩ from rfl, zv0]; simp, by rw [show (newX l m).p = ⟨0, []⟩ from rfl, zv0]; simp⟩, rfl⟩
theorem zfy (s : Side) : zck (zco s) = true := by
 unfold zco
 split
 ·assumption
 ·exact zfh _ _
theorem zgt {s : Side} (h : zck s = true) : zco s = s := by simp [zco, h]
theorem zld {e : Errs} (h : zax e.e0 = false ∧ zax e.e1 = false ∧ zax e.e2 = false ∧ zax e.e3 = false) {v : Int} (hv : rngB v 15 = true) (k : Int) :
  zax (e.set k v).e0 = false ∧ zax (e.set k v).e1 = false ∧ zax (e.set k v).e2 = false ∧ zax (e.set k v).e3 = false := by
 have hv' : zax v = false := by simp [zax, hv]
 unfold Errs.set
 (repeat' split) <;> simp [h, hv']
theorem zod {n : Int} (h : rngB n 2147483647 = true) (hf : ¬ n = 2147483647) : rngB (n + 1) 2147483647 = true := by
 rw [rngB_iff] at h ⊢; omega
theorem zsp (s : Side) (epoch : Int) : zck (zaz s epoch).1 = true := by
 have h := zfy s
 unfold zaz zcd
 split
 ·exact h
 ·rename_i h1
  split
  ·exact h
  ·rename_i h2
   have S := saneX_iff.1 h
   rw [saneX_iff]
   have he := rngB_iff.1 S.epoch
   exact ⟨rngB_iff.2 ⟨by simp only [zcv]; omega, by simp only [zcv]; omega⟩, zod S.turn (by simpa [zhq] using h2), ⟨rfl, rfl, rfl, rfl⟩, zln _, S.w, S.p, S.room, S.agrees⟩
theorem zw0 {s : Side} (S : SaneX s) (f : Frame) : SaneX (zfa s f).1 := by
 have hw := zqc s.w f.adds f.gone
 have hr := zy1 s.w f.adds f.gone
 have h6 : (zdr s.w f.adds f.gone).2.1 = true → (zdr s.w f.adds f.gone).1.ready = true := by
  unfold zdr zgg zgk
  (repeat' split) <;> simp
 have h7 : (zdr s.w f.adds f.gone).2.1 = false → (zdr s.w f.adds f.gone).1.ready = s.w.ready ∧ (zdr s.w f.adds f.gone).1.shown = s.w.shown := by
  have hw : zds s.w = s.w := zqf S.w
  unfold zdr zgg zgk
  rw [hw]
  (repeat' split) <;> simp
 unfold zfa
 dsimp only
 generalize zdr s.w f.adds f.gone = W at hw hr h6 h7 ⊢
 obtain ⟨w', ch, why⟩ := W
 simp only at hw hr h6 h7 ⊢
 cases ch with
 | false =>
   simp only [Bool.false_eq_true, false_and, if_false]
   split
   ·exact ⟨S.epoch, S.turn, zld S.errs rfl _, S.inn, S.w, S.p, S.room, S.agrees⟩
   ·refine ⟨S.epoch, S.turn, zld S.errs hr _, S.inn, hw, S.p, S.room, ?_⟩
    have hA := S.agrees
    obtain ⟨g1, g2⟩ := h7 rfl
    unfold zcn at hA ⊢
    simp only [g1, g2]
    exact hA
 | true =>
   simp only [true_and, if_true]
   split
   ·exact S
   ·rename_i h1
    split
    ·exact ⟨S.epoch, S.turn, zld S.errs rfl _, S.inn, S.w, S.p, S.room, S.agrees⟩
    ·rename_i h2
     refine ⟨S.epoch, S.turn, zld S.errs hr _, S.inn, hw, ze2 _ _, by simpa using h2, ?_⟩
     obtain ⟨c, h4, h5⟩ := ztv (Decidable.not_not.1 h1)
     simp only [zcn, h4, h5, h6 rfl, decide_true, Bool.and_self]
theorem zqi (s : Side) (f : Frame) : zck (zgu s f).1 = true := by
 have h := zfy s
 have S := saneX_iff.1 h
 unfold zgu zfz
 generalize zco s = q at h S ⊢
 dsimp only
 split
 ·exact h
 ·split
  ·split
   ·exact h
   ·rename_i hf
    split
    ·exact h
    ·rw [saneX_iff]
     have T := zw0 S f
     have ht : (zfa q f).1.turn = q.turn := by
      unfold zfa
      dsimp only
      (repeat' split) <;> rfl
     exact ⟨T.epoch, by simp only [ackX, zcv, ht]; exact zod S.turn (by simpa [zhq] using hf), T.errs, zwy S.inn _ _, T.w, T.p, T.room, T.agrees⟩
  ·split
   ·split
    ·exact h
    ·rename_i hf
     rw [saneX_iff]
     exact ⟨S.epoch, zod S.turn (by simpa [zhq] using hf), S.errs, S.inn, S.w, S.p, S.room, S.agrees⟩
   ·exact h
end Go.G
end
section
namespace Go.G
open Go.AI
theorem qbc {l : List Res} (h : AscR l) : (l.map Res.key).foldl putK [] = l.map Res.key :=
 zfv (zdx _ (by simp [Asc])).1 h fun k => by rw [(zdx _ (by simp [Asc])).2]; simp
theorem zn7 {l : List Res} (h : AscR l) : AscR (zal l) := zbr h _
theorem zvz (n : Int) (c : Snap) (hs : zf1 ⟨n, [c]⟩ = true) (hc : AscR c.l) : zc4 ⟨n, [c]⟩ = c.l.map Res.key := by
 unfold zc4
 rw [zfe hs]
 simp only [qd1, List.flatMap_cons, List.flatMap_nil, List.append_nil]
 exact qbc hc
theorem znf {n a : Int} : ∀ {l : List Snap}, zb8 n a l = true → (∀ s ∈ l, s.pins = 0) → l = [] ∨ ∃ c, l = [c]
 | [], _, _ => .inl rfl
 | [c], _, _ => .inr ⟨c, rfl⟩
 | c :: d :: r, hs, hz => by
   simp only [zb8, Bool.and_eq_true, decide_eq_true_eq] at hs
   have h1 := hz c (by simp)
   have h2 := hs.1.1.2
   rw [if_neg (by simp)] at h2
   omega
theorem znw {x : Side} (S : SaneX x) (hz : ∀ s ∈ x.p.snaps, s.pins = 0) (ha : AscR x.w.shown) : zc4 x.p = x.w.shown.map Res.key := by
 have hp := saneP_iff.1 S.p
 have hA := S.agrees
 have hw := (saneW_iff.1 S.w).2.2
 unfold zcn curP at hA
 rw [zfe S.p] at hA
 rcases znf hp.1 hz with e | ⟨c, e⟩
 ·rw [e] at hA
  simp only [List.getLast?_nil, Bool.not_eq_true'] at hA
  have : x.w.shown = [] := hw.resolve_left (by simp [hA])
  rw [this]
  unfold zc4
  rw [zfe S.p]
  simp [qd1, e]
 ·rw [e] at hA
  simp only [List.getLast?_singleton, Bool.and_eq_true, decide_eq_true_eq] at hA
  have e2 : x.p = ⟨x.p.next, [c]⟩ := by rw [← e]
  have hs := S.p
  rw [e2] at hs ⊢
  rw [zvz _ _ hs (by rw [hA.2]; exact ha), hA.2]
theorem zzk {p : Pins} {H : List Res} (hp : zc4 p = (zal H).map Res.key) (ht : tabE H = 0) : zor p = true := by
 rw [room_iff, hp]
 have h1 := tab_len ht
 have h2 : (zal H).length ≤ H.length := List.length_filter_le _ _
 refine ⟨by rw [List.length_map]; omega, fun k hk => ?_⟩
 obtain ⟨r, hr, rfl⟩ := List.mem_map.1 hk
 exact (zin (zd2 ht (mem_reachR.1 hr).1)).2
theorem zw1 {x : Side} {H H' : List Res} {f : Frame} (S : SaneX x) (hc : x.w.c = ⟨64, H⟩) (hz : ∀ s ∈ x.p.snaps, s.pins = 0) (hn : x.p.next < 2147483647)
  (hH : zac H f.adds f.gone = H') (ht : tabE H' = 0) (hv : zaq H' = 0) :
  ∃ p' w', zfa x f = ({ x with w := w', p := p', errs := x.errs.set f.kind 0 }, 0) ∧ w'.c = ⟨64, H'⟩ ∧ (∀ s ∈ p'.snaps, s.pins = 0) ∧ zc4 p' = (zal H').map Res.key ∧ p'.next ≤ x.p.next + 1 := by
 have hW := saneW_iff.1 S.w
 rw [hc] at hW
 have hsC := hW.1
 have hl := tab_len ht
 have hm : zdc 64 H' = 0 := must_iff.2 ⟨ht, by omega, hv⟩
 have hap : zd8 x.w.c f.adds f.gone = (⟨64, H'⟩, 0) := by
  rw [hc]
  simp only [zd8, zem hsC, zhy, hH, hm, if_true]
 have hsN : zh4 ⟨64, H'⟩ = true := saneC_iff.2 ⟨rfl, ht, by simp only; omega, hv⟩
 have hsh : zd7 ⟨64, H'⟩ = zal H' := by simp only [zd7, zem hsN]
 have ha := zn7 (zai ht)
 have hst : zdr x.w f.adds f.gone = ((zgk x.w ⟨64, H'⟩).1, (zgk x.w ⟨64, H'⟩).2, 0) := by
  simp only [zdr, zqf S.w, zgg, hap]
  simp
 by_cases e : zal H' = x.w.shown
 ·have htk : zgk x.w ⟨64, H'⟩ = (⟨⟨64, H'⟩, x.w.ready, x.w.shown⟩, false) := by simp [zgk, hsh, e]
  rw [htk] at hst
  have hh : zc4 x.p = (zal H').map Res.key := by rw [e]; exact znw S hz (by rw [← e]; exact ha)
  refine ⟨x.p, ⟨⟨64, H'⟩, x.w.ready, x.w.shown⟩, ?_, rfl, hz, hh, by omega⟩
  have hr := zzk hh ht
  simp [zfa, hst, hr]
 ·have htk : zgk x.w ⟨64, H'⟩ = (⟨⟨64, H'⟩, true, zal H'⟩, true) := by simp [zgk, hsh, e]
  rw [htk] at hst
  have hlf : zua x.p = [] := by
   unfold zua
   rw [List.filter_eq_nil_iff]
   intro s hs
   simp [hz s hs]
  have hpu : zby x.p (zal H') = (⟨x.p.next + 1, [⟨x.p.next + 1, 0, zal H'⟩]⟩, x.p.next + 1, 0) := by
   have : ¬ x.p.next = 2147483647 := by omega
   simp [zby, zfe S.p, zct, this, hlf]
  have hsp := ze2 x.p (zal H')
  rw [hpu] at hsp
  have hh : zc4 ⟨x.p.next + 1, [⟨x.p.next + 1, 0, zal H'⟩]⟩ = (zal H').map Res.key := zvz _ _ hsp ha
  refine ⟨⟨x.p.next + 1, [⟨x.p.next + 1, 0, zal H'⟩]⟩, ⟨⟨64, H'⟩, true, zal H'⟩, ?_, rfl, by simp, hh, by simp⟩
  have hr := zzk hh ht
  simp [zfa, hst, hpu, hr]
theorem zy5 {x : Side} (hs : zck x = true) (hu : x.up = true) {f : Frame} (hf : za6 f = 0) (he : f.epoch = x.epoch) (ht : f.type = 1) (htk : (Nonce.take x.inn f.kind f.nonce).2 = 0) (hfu : zhq x = false)
  (hst : (zfa x f).2 = 0) : zgu x f = ((ackX { (zfa x f).1 with inn := (Nonce.take x.inn f.kind f.nonce).1 } f).1, (ackX { (zfa x f).1 with inn := (Nonce.take x.inn f.kind f.nonce).1 } f).2, 0) := by
 simp [zgu, zgt hs, zfz, zbm, hu, hf, he, ht, htk, hfu, hst]
theorem zw7 {x : Side} (hs : zck x = true) (hu : x.up = true) {f : Frame} (hf : za6 f = 0) (he : f.epoch = x.epoch) (ht : f.type = 1) (htk : (Nonce.take x.inn f.kind f.nonce).2 = 9) (hfu : zhq x = false) :
  zgu x f = ((ackX x f).1, (ackX x f).2, 9) := by
 simp [zgu, zgt hs, zfz, zbm, hu, hf, he, ht, htk, hfu]
theorem zkp (e : Errs) {k v : Int} : (e.set k v).get k = v := by
 unfold Errs.set Errs.get
 (repeat' split) <;> simp_all
structure Mt (x : Side) (s : Sess) (H : List Res) (ep : Int) (n : Nat) : Prop where
 xs : zck x = true
 up : x.up = true
 xe : x.epoch = ep
 xc : x.w.c = ⟨64, H⟩
 xz : ∀ s ∈ x.p.snaps, s.pins = 0
 xn : x.p.next ≤ 100 + n
 xt : x.turn ≤ 100 + 2 * n
 ss : zba s = true
 gr : s.greeted = true
 op : s.v.open_ = false
 se : s.epoch = ep
 sh : s.v.have_ = H
 sd : s.v.held = zc4 x.p
 st : s.v.turn = x.turn
 sk : s.stuck = 0
 inn : x.inn = s.out.toI
 om : s.out.m = 1000
 oo : s.out.o0 = false ∧ s.out.o1 = false ∧ s.out.o2 = false ∧ s.out.o3 = false
 ol : s.out.l0 ≤ n ∧ s.out.l1 ≤ n ∧ s.out.l2 ≤ n ∧ s.out.l3 ≤ n
theorem Mt.tab {x : Side} {s : Sess} {H : List Res} {ep : Int} {n : Nat} (M : Mt x s H ep n) : tabE H = 0 ∧ zaq H = 0 ∧ x.w.shown = zal H := by
 have h := saneW_iff.1 (saneX_iff.1 M.xs).w
 rw [M.xc] at h
 have h1 := saneC_iff.1 h.1
 exact ⟨h1.2.1, h1.2.2.2, h.2.1⟩
theorem Mt.held {x : Side} {s : Sess} {H : List Res} {ep : Int} {n : Nat} (M : Mt x s H ep n) : zc4 x.p = (zal H).map Res.key := by
 obtain ⟨h1, h2, h3⟩ := M.tab
 rw [← h3]
 exact znw (saneX_iff.1 M.xs) M.xz (by rw [h3]; exact zn7 (zai h1))
theorem Mt.pl {x : Side} {s : Sess} {H : List Res} {ep : Int} {n : Nat} (M : Mt x s H ep n) {W : List Res} {cap : Int} (hw : Acc cap W) : Pl H W s.v.held :=
 ⟨M.tab.1, hw.tab, M.tab.2.1, hw.served, by simpa using hw.miss, fun k hk => by
   rw [M.sd, M.held] at hk
   obtain ⟨r, hr, rfl⟩ := List.mem_map.1 hk
   exact (mem_reachR.1 hr).2⟩
theorem qa1 {s : Sess} {p : Store} (h1 : s.greeted = true) (h2 : s.v.open_ = false) (h3 : s.stuck = 0) : idle s p = false := by
 simp [idle, h1, h2, h3]
theorem zt1 {o : Nonce.Ou} {n : Nat} (hn : n < 900) (hg : Nonce.goodB o = true) (hm : o.m = 1000) (ho : o.o0 = false ∧ o.o1 = false ∧ o.o2 = false ∧ o.o3 = false)
  (hl : o.l0 ≤ n ∧ o.l1 ≤ n ∧ o.l2 ≤ n ∧ o.l3 ≤ n) {k : Int} (hk : k = 0 ∨ k = 1 ∨ k = 2 ∨ k = 3) :
  ∃ o1 o2 N, Nonce.push o k = (o1, N, 0) ∧ Nonce.goodB o1 = true ∧ (1 ≤ N ∧ N ≤ n + 1) ∧ Nonce.take o.toI k N = (o2.toI, 0) ∧ Nonce.take o2.toI k N = (o2.toI, 9) ∧ Nonce.done o1 k N = (o2, 0) ∧ (Nonce.done o2 k N).2 = 11 ∧ Nonce.goodB o2 = true ∧
   o2.m = 1000 ∧ (o2.o0 = false ∧ o2.o1 = false ∧ o2.o2 = false ∧ o2.o3 = false) ∧ (o2.l0 ≤ n + 1 ∧ o2.l1 ≤ n + 1 ∧ o2.l2 ≤ n + 1 ∧ o2.l3 ≤ n + 1) := by
 obtain ⟨a, b, c, d, x, y, z, t, m⟩ := o
 simp only at hm ho hl
 obtain ⟨rfl, rfl, rfl, rfl⟩ := ho
 subst hm
 have hs := hg
 simp only [Nonce.goodB, Nonce.Ou.toI, Bool.false_and, Bool.not_false, Bool.true_and, Nonce.soundB_mk] at hs
 have gd : ∀ a b c d : Int, 0 ≤ a → a ≤ 1000 → 0 ≤ b → b ≤ 1000 → 0 ≤ c → c ≤ 1000 → 0 ≤ d → d ≤ 1000 → Nonce.soundB ⟨a, b, c, d, 1000⟩ = true := fun a b c d h1 h2 h3 h4 h5 h6 h7 h8 => by
  rw [Nonce.soundB_mk]; omega
 rcases hk with rfl | rfl | rfl | rfl
 ·have g1 := gd (a + 1) b c d (by omega) (by omega) (by omega) (by omega) (by omega) (by omega) (by omega) (by omega)
  have g0 := gd a b c d (by omega) (by omega) (by omega) (by omega) (by omega) (by omega) (by omega) (by omega)
  have e1 : ¬ a = 1000 := by omega
  have e2 : ¬ a + 1 = 0 := by omega
  have e3 : ¬ a + 1 = a := by omega
  have e4 : ¬ (1000 : Int) < a + 1 := by omega
  refine ⟨⟨a + 1, b, c, d, true, false, false, false, 1000⟩, ⟨a + 1, b, c, d, false, false, false, false, 1000⟩, a + 1, ?_, ?_, ⟨by omega, by omega⟩, ?_, ?_, ?_, ?_, ?_, rfl, ⟨rfl, rfl, rfl, rfl⟩, ⟨?_, ?_, ?_, ?_⟩⟩ <;>
   first | (simp [Nonce.push, Nonce.pushQ, Nonce.outF, Nonce.goodB, Nonce.Ou.toI, g0, g1, Nonce.kindB, Nonce.Ou.open', Nonce.Ou.last, Nonce.Ou.set, Nonce.take, Nonce.takeQ, Nonce.inF, Nonce.Nn.last, Nonce.Nn.set, Nonce.done, Nonce.doneQ, e1, e2, e3, e4]; done) | (simp only; omega)
 ·have g1 := gd a (b + 1) c d (by omega) (by omega) (by omega) (by omega) (by omega) (by omega) (by omega) (by omega)
  have g0 := gd a b c d (by omega) (by omega) (by omega) (by omega) (by omega) (by omega) (by omega) (by omega)
  have e1 : ¬ b = 1000 := by omega
  have e2 : ¬ b + 1 = 0 := by omega
  have e3 : ¬ b + 1 = b := by omega
  have e4 : ¬ (1000 : Int) < b + 1 := by omega
  refine ⟨⟨a, b + 1, c, d, false, true, false, false, 1000⟩, ⟨a, b + 1, c, d, false, false, false, false, 1000⟩, b + 1, ?_, ?_, ⟨by omega, by omega⟩, ?_, ?_, ?_, ?_, ?_, rfl, ⟨rfl, rfl, rfl, rfl⟩, ⟨?_, ?_, ?_, ?_⟩⟩ <;>
   first | (simp [Nonce.push, Nonce.pushQ, Nonce.outF, Nonce.goodB, Nonce.Ou.toI, g0, g1, Nonce.kindB, Nonce.Ou.open', Nonce.Ou.last, Nonce.Ou.set, Nonce.take, Nonce.takeQ, Nonce.inF, Nonce.Nn.last, Nonce.Nn.set, Nonce.done, Nonce.doneQ, e1, e2, e3, e4]; done) | (simp only; omega)
 ·have g1 := gd a b (c + 1) d (by omega) (by omega) (by omega) (by omega) (by omega) (by omega) (by omega) (by omega)
  have g0 := gd a b c d (by omega) (by omega) (by omega) (by omega) (by omega) (by omega) (by omega) (by omega)
  have e1 : ¬ c = 1000 := by omega
  have e2 : ¬ c + 1 = 0 := by omega
  have e3 : ¬ c + 1 = c := by omega
  have e4 : ¬ (1000 : Int) < c + 1 := by omega
  refine ⟨⟨a, b, c + 1, d, false, false, true, false, 1000⟩, ⟨a, b, c + 1, d, false, false, false, false, 1000⟩, c + 1, ?_, ?_, ⟨by omega, by omega⟩, ?_, ?_, ?_, ?_, ?_, rfl, ⟨rfl, rfl, rfl, rfl⟩, ⟨?_, ?_, ?_, ?_⟩⟩ <;>
   first | (simp [Nonce.push, Nonce.pushQ, Nonce.outF, Nonce.goodB, Nonce.Ou.toI, g0, g1, Nonce.kindB, Nonce.Ou.open', Nonce.Ou.last, Nonce.Ou.set, Nonce.take, Nonce.takeQ, Nonce.inF, Nonce.Nn.last, Nonce.Nn.set, Nonce.done, Nonce.doneQ, e1, e2, e3, e4]; done) | (simp only; omega)
 ·have g1 := gd a b c (d + 1) (by omega) (by omega) (by omega) (by omega) (by omega) (by omega) (by omega) (by omega)
  have g0 := gd a b c d (by omega) (by omega) (by omega) (by omega) (by omega) (by omega) (by omega) (by omega)
  have e1 : ¬ d = 1000 := by omega
  have e2 : ¬ d + 1 = 0 := by omega
  have e3 : ¬ d + 1 = d := by omega
  have e4 : ¬ (1000 : Int) < d + 1 := by omega
  refine ⟨⟨a, b, c, d + 1, false, false, false, true, 1000⟩, ⟨a, b, c, d + 1, false, false, false, false, 1000⟩, d + 1, ?_, ?_, ⟨by omega, by omega⟩, ?_, ?_, ?_, ?_, ?_, rfl, ⟨rfl, rfl, rfl, rfl⟩, ⟨?_, ?_, ?_, ?_⟩⟩ <;>
   first | (simp [Nonce.push, Nonce.pushQ, Nonce.outF, Nonce.goodB, Nonce.Ou.toI, g0, g1, Nonce.kindB, Nonce.Ou.open', Nonce.Ou.last, Nonce.Ou.set, Nonce.take, Nonce.takeQ, Nonce.inF, Nonce.Nn.last, Nonce.Nn.set, Nonce.done, Nonce.doneQ, e1, e2, e3, e4]; done) | (simp only; omega)
theorem qb6 {ep k N T : Int} {hd : List Key} (h1 : rngB ep 2147483647 = true) (h2 : rngB k 3 = true) (h3 : rngB N 2147483647 = true) (h4 : rngB T 2147483647 = true) (h5 : hd.length ≤ 64) (h6 : ∀ k ∈ hd, okK k = true) :
  za6 ⟨2, ep, k, N, T, [], [], 0, [], hd⟩ = 0 := by
 rw [frameE_zero]
 refine ⟨rfl, h2, ?_, rfl, ?_, by simp, rfl⟩
 ·simp only [zbs, h1, h3, h4, h5]; simp [h5, rngB]
 ·simp only [zbw, Bool.and_eq_true, List.all_eq_true]
  exact ⟨⟨by simp, h6⟩, by simp⟩
theorem zwn {s t : Sess} {q : Store} {f : Frame} {o1 o2 : Nonce.Ou} {T : Int} {hd : List Key} (ht : t = { s with v := zh2 s.v f, out := o1 }) (hs : zba t = true) (hep : f.epoch = s.epoch)
  (hd' : Nonce.done o1 f.kind f.nonce = (o2, 0)) (hT : s.v.turn < T) (hl : (zac s.v.have_ f.adds f.gone).length ≤ 64) (hf : za6 ⟨2, f.epoch, f.kind, f.nonce, T, [], [], 0, [], hd⟩ = 0) :
  handle t q ⟨2, f.epoch, f.kind, f.nonce, T, [], [], 0, [], hd⟩ = (⟨s.epoch, s.greeted, o2, ⟨zac s.v.have_ f.adds f.gone, hd, T, zFrame, false⟩, 0, nowI q⟩, 0) := by
 subst ht
 have hl' : ¬ 64 < (zac s.v.have_ f.adds f.gone).length := by omega
 rw [hep] at hf ⊢
 unfold handle
 rw [zbk hs]
 simp [zbq, hf, ackH, hd', zh2, ansV, fitF, zc1, hT, hl', hep]
theorem qeu {v : Sess} {q : Store} {f : Frame} {T : Int} {hd : List Key} (hs : zba v = true) (hep : f.epoch = v.epoch) (hd' : (Nonce.done v.out f.kind f.nonce).2 = 11) (hf : za6 ⟨2, f.epoch, f.kind, f.nonce, T, [], [], 0, [], hd⟩ = 0) :
  (handle v q ⟨2, f.epoch, f.kind, f.nonce, T, [], [], 0, [], hd⟩).2 = 11 := by
 unfold handle
 rw [zbk hs]
 rw [hep] at hf ⊢
 simp [zbq, hf, ackH, hd']
structure Turn (x : Side) (s : Sess) (q : Store) (H W : List Res) (ep : Int) (n : Nat) (st : Step) (t : Sess) (f : Frame) : Prop where
 next : zeq H W s.v.held = some st
 pump : pump s q = (t, [f], 0)
 ts : zba t = true
 op : t.v.open_ = true
 fs : za6 f = 0
 push : t.v.push = f
 go : ∃ y a z b v u, zgu x f = (y, [a], 0) ∧ zgu y f = (z, [b], 9) ∧ handle t q a = (u, 0) ∧ handle t q b = (v, 0) ∧ (handle u q b).2 = 11 ∧
  { v with v := { v.v with turn := u.v.turn } } = u ∧ Mt y u (zac H st.adds st.gone) ep (n + 1) ∧ Mt z v (zac H st.adds st.gone) ep (n + 1)
theorem zt3 {x : Side} {s : Sess} {q : Store} {H : List Res} {ep : Int} {n : Nat} (M : Mt x s H ep n) (hq : sanS q = true) (hn : n < 900) {st : Step} (hx : zeq H (nowL q) s.v.held = some st)
  (ht : tabE (zac H st.adds st.gone) = 0) (hv : zaq (zac H st.adds st.gone) = 0) : ∃ t f, Turn x s q H (nowL q) ep n st t f := by
 have S := saneS_iff.1 M.ss
 have X := saneX_iff.1 M.xs
 have hx' : zeq s.v.have_ (nowL q) s.v.held = some st := by rw [M.sh]; exact hx
 have hst := qg8 hx'
 obtain ⟨o1, o2, N, p1, p2, p3, p4, p5, p6, p7, p8, p9, p10, p11⟩ := zt1 hn S.out M.om M.oo M.ol hst.kind
 have hN : rngB N 2147483647 = true := rngB_iff.2 ⟨by omega, by omega⟩
 have hk3 := qaq hst.kind
 have hf0 : za6 (zbe s st N) = 0 := zvd hst S rfl (zep hq) hN
 have hep : rngB s.epoch 2147483647 = true := by have := S.plain; simp only [zcq, Bool.and_eq_true] at this; exact this.1.1
 have hpu : pump s q = ({ s with v := zh2 s.v (zbe s st N), out := o1 }, [zbe s st N], 0) := by
  unfold Go.G.pump
  rw [zbk M.ss]
  simp [zec, qa1 M.gr M.op M.sk, hx', zl6, p1]
 have hts : zba { s with v := zh2 s.v (zbe s st N), out := o1 } = true := by
  have := zy6 S hst (zep hq) M.gr (by rw [p1])
  rwa [p1] at this
 have hz0 := X.turn
 rw [rngB_iff] at hz0
 have ht0 := M.xt
 have hP : zac H (zbe s st N).adds (zbe s st N).gone = zac H st.adds st.gone := rfl
 obtain ⟨p', w', e1, e2, e3, e4, e5⟩ := zw1 (x := x) (f := zbe s st N) X M.xc M.xz (by have := M.xn; omega) hP ht hv
 have hfu : zhq x = false := by simp only [zhq, decide_eq_false_iff_not]; omega
 have htk : Nonce.take x.inn (zbe s st N).kind (zbe s st N).nonce = (o2.toI, 0) := by rw [M.inn]; exact p4
 have hfe : (zbe s st N).epoch = x.epoch := by rw [M.xe]; exact M.se
 have h1 := zy5 M.xs M.up hf0 hfe rfl (by rw [htk]) hfu (by rw [e1])
 rw [e1, htk] at h1
 simp only [ackX, zkp] at h1
 have hys := zqi x (zbe s st N)
 rw [h1] at hys
 simp only at hys
 have R := room_iff.1 (saneX_iff.1 hys).room
 simp only [zcv] at R
 have h2 := zw7 hys M.up hf0 hfe rfl (by simp only [zcv]; rw [show (zbe s st N).kind = st.kind from rfl, show (zbe s st N).nonce = N from rfl, p5]) (decide_eq_false (by show ¬ x.turn + 1 = 2147483647; omega))
 simp only [ackX, zcv, zkp] at h2
 have hzs := zqi (zcv { x with w := w', p := p', errs := x.errs.set (zbe s st N).kind 0, inn := o2.toI }) (zbe s st N)
 simp only [zcv] at hzs
 rw [h2] at hzs
 simp only at hzs
 have hl64 := tab_len ht
 have fa := qb6 (ep := (zbe s st N).epoch) (k := (zbe s st N).kind) (N := (zbe s st N).nonce) (T := x.turn + 1) hep hk3 hN (rngB_iff.2 ⟨by omega, by omega⟩) R.1 R.2
 have fb := qb6 (ep := (zbe s st N).epoch) (k := (zbe s st N).kind) (N := (zbe s st N).nonce) (T := x.turn + 1 + 1) hep hk3 hN (rngB_iff.2 ⟨by omega, by omega⟩) R.1 R.2
 have hsl : (zac s.v.have_ (zbe s st N).adds (zbe s st N).gone).length ≤ 64 := by rw [M.sh]; exact hl64
 have k1 := zwn (q := q) rfl hts rfl p6 (by have := M.st; omega) hsl fa
 have k2 := zwn (q := q) rfl hts rfl p6 (by have := M.st; omega) hsl fb
 have us := zes q ⟨2, (zbe s st N).epoch, (zbe s st N).kind, (zbe s st N).nonce, x.turn + 1, [], [], 0, [], zc4 p'⟩ hts
 have vs := zes q ⟨2, (zbe s st N).epoch, (zbe s st N).kind, (zbe s st N).nonce, x.turn + 1 + 1, [], [], 0, [], zc4 p'⟩ hts
 rw [k1] at us
 rw [k2] at vs
 refine ⟨_, _, hx, hpu, hts, rfl, hf0, rfl, _, _, _, _, _, _, h1, h2, k1, k2, qeu us rfl p7 fb, rfl, ?_, ?_⟩
 ·exact ⟨hys, M.up, M.xe, e2, e3, by have := M.xn; simp only [zcv]; omega, by simp only [zcv]; omega, us, M.gr, rfl, M.se, by simp only [M.sh]; rfl, rfl, rfl, rfl, rfl, p9, p10, ⟨by simp only; omega, by simp only; omega, by simp only; omega, by simp only; omega⟩⟩
 ·exact ⟨hzs, M.up, M.xe, e2, e3, by have := M.xn; simp only [zcv]; omega, by simp only [zcv]; omega, vs, M.gr, rfl, M.se, by simp only [M.sh]; rfl, rfl, rfl, rfl, rfl, p9, p10, ⟨by simp only; omega, by simp only; omega, by simp only; omega, by simp only; omega⟩⟩
theorem zt4 {x : Side} {s : Sess} {q : Store} {H : List Res} {ep : Int} {n : Nat} (M : Mt x s H ep n) (hq : sanS q = true) (hx : zeq H (nowL q) s.v.held = none) : pump s q = (s, [], 0) ∧ H = nowL q ∧ zea s q = true ∧ zd3 s = [] := by
 have hx' : zeq s.v.have_ (nowL q) s.v.held = none := by rw [M.sh]; exact hx
 have hA : Acc q.cap (nowL q) := by unfold nowL; rw [zb3 hq]; exact zim hq
 have hH := zz2 (M.pl hA) hx
 refine ⟨by unfold pump; rw [zbk M.ss]; simp [zec, qa1 M.gr M.op M.sk, hx'], hH, ?_, by simp [zd3, zbk M.ss, M.op]⟩
 simp [zea, zbk M.ss, M.gr, M.op, M.sh, hH]
theorem qa4 {ep : Int} {H : List Res} (he : rngB ep 2147483647 = true) (ht : tabE H = 0) : za6 ⟨0, ep, 0, 0, 0, [], [], 0, zch H, []⟩ = 0 := by
 have hl := tab_len ht
 rw [frameE_zero]
 refine ⟨rfl, rfl, ?_, rfl, ?_, by simp, rfl⟩
 ·simp only [zbs, Bool.and_eq_true, List.all_eq_true, decide_eq_true_eq]
  refine ⟨⟨⟨⟨⟨⟨⟨⟨by simp, by simp⟩, by simpa [zch] using hl⟩, by simp⟩, fun m hm => ?_⟩, he⟩, by decide⟩, by decide⟩, by decide⟩
  obtain ⟨r, hr, rfl⟩ := List.mem_map.1 hm
  exact (zin (zd2 ht hr)).1
 ·simp only [zbw, Bool.and_eq_true, List.all_eq_true]
  refine ⟨⟨by simp, by simp⟩, fun m hm => ?_⟩
  obtain ⟨r, hr, rfl⟩ := List.mem_map.1 hm
  exact (zin (zd2 ht hr)).2
theorem qbm {ep T : Int} {hd : List Key} (h1 : rngB ep 2147483647 = true) (h4 : rngB T 2147483647 = true) (h5 : hd.length ≤ 64) (h6 : ∀ k ∈ hd, okK k = true) : za6 ⟨3, ep, 0, 0, T, [], [], 0, [], hd⟩ = 0 := by
 rw [frameE_zero]
 refine ⟨rfl, rfl, ?_, rfl, ?_, by simp, rfl⟩
 ·simp only [zbs, h1, h4, h5]; simp [h5, rngB]
 ·simp only [zbw, Bool.and_eq_true, List.all_eq_true]
  exact ⟨⟨by simp, h6⟩, by simp⟩
theorem zjv {x : Side} {q : Store} {H : List Res} {ep : Int} {n : Nat} (hs : zck x = true) (hc : x.w.c = ⟨64, H⟩) (hz : ∀ s ∈ x.p.snaps, s.pins = 0) (hm : x.inn.m = 1000) (hn : n < 900) (hp : x.p.next ≤ 100 + n) (ht : x.turn + 1 ≤ 100 + 2 * n)
  (he : x.epoch < ep) (he2 : ep ≤ 2147483647) (hk : zci q (zch H) = H) :
  ∃ y a b s, zaz x ep = (y, [a, b], 0) ∧ [a, b].foldl (fun s f => (handle s q f).1) (zan ep 1000) = s ∧ Mt y s H ep n := by
 have X := saneX_iff.1 hs
 have hx0 := rngB_iff.1 X.epoch
 have ht0 := rngB_iff.1 X.turn
 have hep : rngB ep 2147483647 = true := rngB_iff.2 ⟨by omega, he2⟩
 have hW := saneW_iff.1 X.w
 rw [hc] at hW
 have hT := (saneC_iff.1 hW.1).2.1
 have h1 : zaz x ep = (zcv { x with epoch := ep, up := true, inn := Nonce.startI x.inn.m, errs := ⟨0, 0, 0, 0⟩ }, [ze5 (zcv { x with epoch := ep, up := true, inn := Nonce.startI x.inn.m, errs := ⟨0, 0, 0, 0⟩ }), zhw (zcv { x with epoch := ep, up := true, inn := Nonce.startI x.inn.m, errs := ⟨0, 0, 0, 0⟩ })], 0) := by
  have e1 : ¬ (ep ≤ x.epoch ∨ 2147483647 < ep) := by omega
  have e2 : ¬ zhq x = true := by simp only [zhq, decide_eq_true_eq]; omega
  simp only [zaz, zgt hs, zcd, if_neg e1, if_neg e2]
 have hys := zsp x ep
 rw [h1] at hys
 simp only at hys
 have R := room_iff.1 X.room
 have eN : (zan ep 1000).epoch = ep := by simp only [zan]; omega
 have k1 := zxu ep 1000 q (ze5 (zcv { x with epoch := ep, up := true, inn := Nonce.startI x.inn.m, errs := ⟨0, 0, 0, 0⟩ })) (by simp only [ze5, zcv, hc]; exact qa4 hep hT) (by rw [eN]; rfl) rfl
 have s1 := zes q (ze5 (zcv { x with epoch := ep, up := true, inn := Nonce.startI x.inn.m, errs := ⟨0, 0, 0, 0⟩ })) (zcy ep 1000)
 rw [k1] at s1
 simp only [ze5, zcv, hc, zg1, hk] at k1 s1
 have f2 := qbm (ep := ep) (T := x.turn + 1) hep (rngB_iff.2 ⟨by omega, by omega⟩) R.1 R.2
 have s2 := zes q ⟨3, ep, 0, 0, x.turn + 1, [], [], 0, [], zc4 x.p⟩ s1
 have k2 : handle { zan ep 1000 with greeted := true, v := { (zan ep 1000).v with have_ := H, held := if (zan ep 1000).v.turn = 0 then H.map Res.key else (zan ep 1000).v.held } } q ⟨3, ep, 0, 0, x.turn + 1, [], [], 0, [], zc4 x.p⟩ =
   ({ zan ep 1000 with greeted := true, v := ⟨H, zc4 x.p, x.turn + 1, zFrame, false⟩ }, 0) := by
  have e1 : (0 : Int) < x.turn + 1 := by omega
  unfold handle
  rw [zbk s1]
  simp [zbq, f2, eN, zkr, zc1, zan, zView, e1, show max 0 (min ep 2147483647) = ep from eN]
 rw [k2] at s2
 refine ⟨_, _, _, _, h1, rfl, ?_⟩
 simp only [List.foldl_cons, List.foldl_nil, ze5, zhw, zcv, hc]
 rw [k1, k2]
 refine ⟨hys, rfl, rfl, hc, hz, hp, by simp only [zcv]; omega, s2, rfl, rfl, eN, rfl, rfl, rfl, rfl, ?_, rfl, ⟨rfl, rfl, rfl, rfl⟩, ?_⟩
 ·simp only [zcv, hm]; rfl
 ·simp [zan, Nonce.startO]
def zns (q : Store) : Nat → Side → Sess → List Frame → Side × Sess × Bool
 | 0, x, s, _ => (x, s, false)
 | n + 1, x, s, l =>
   let p := pump (l.foldl (fun s f => (handle s q f).1) s) q
   match p.2.1 with
   | [] => (x, p.1, decide (p.2.2 = 0))
   | f :: _ => zns q n (zgu x f).1 p.1 (zgu x f).2.1
def zho (x : Side) (q : Store) (ep : Int) : Side × Sess × Bool := zns q 13 (zaz x ep).1 (zan ep 1000) (zaz x ep).2.1
theorem qai {q : Store} (hq : sanS q = true) {U : List Key} (hU : U.length ≤ 64) (hW : ∀ r ∈ nowL q, r.key ∈ U) {c : Nat} (hc : c ≤ 500) {ep : Int} : ∀ (fuel : Nat) (x : Side) (s : Sess) (l : List Frame) (H : List Res) (n m : Nat),
  Mt x (l.foldl (fun s f => (handle s q f).1) s) H ep n → (∀ r ∈ H, r.key ∈ U) → (∀ j, j < m → Qp H (nowL q) j) → m ≤ 10 → 11 ≤ m + fuel → n ≤ c + m →
  ∃ b t n', zns q fuel x s l = (b, t, true) ∧ Mt b t (nowL q) ep n' ∧ n' ≤ c + 10 ∧ pump t q = (t, [], 0) ∧ zea t q = true
 | 0, x, s, l, H, n, m, M, hH, hj, hm, hf, hn => by omega
 | fuel + 1, x, s, l, H, n, m, M, hH, hj, hm, hf, hn => by
   simp only [zns]
   generalize l.foldl (fun s f => (handle s q f).1) s = s' at M ⊢
   cases hx : zeq H (nowL q) s'.v.held with
   | none =>
     obtain ⟨h1, h2, h3, _⟩ := zt4 M hq hx
     simp only [h1]
     exact ⟨x, s', n, rfl, h2 ▸ M, by omega, h1, h3⟩
   | some st =>
     have hA : Acc q.cap (nowL q) := by unfold nowL; rw [zb3 hq]; exact zim hq
     obtain ⟨g1, g2, g3, g4⟩ := zl7 (M.pl hA) hU hH hW hx
     obtain ⟨t, f, T⟩ := zt3 M hq (by omega) hx g1 g2
     obtain ⟨y, a, z, b, v, u, k1, k2, k3, k4, k5, k6, k7, k8⟩ := T.go
     obtain ⟨h5, h6⟩ := g4 m hj
     simp only [T.pump, k1]
     refine qai hq hU hW hc fuel y t [a] _ (n + 1) (m + 1) ?_ g3 h6 (by omega) (by omega) (by omega)
     simpa [k3] using k7
theorem zvp {x : Side} {q : Store} {H : List Res} {ep : Int} {c : Nat} (hq : sanS q = true) {U : List Key} (hU : U.length ≤ 64) (hW : ∀ r ∈ nowL q, r.key ∈ U) (hH : ∀ r ∈ H, r.key ∈ U) (hc : c ≤ 500)
  (hs : zck x = true) (hxc : x.w.c = ⟨64, H⟩) (hz : ∀ s ∈ x.p.snaps, s.pins = 0) (hm : x.inn.m = 1000) (hp : x.p.next ≤ 100 + c) (ht : x.turn + 1 ≤ 100 + 2 * c) (he : x.epoch < ep) (he2 : ep ≤ 2147483647) (hk : zci q (zch H) = H) :
  ∃ b t n', zho x q ep = (b, t, true) ∧ Mt b t (nowL q) ep n' ∧ n' ≤ c + 10 ∧ pump t q = (t, [], 0) ∧ zea t q = true := by
 obtain ⟨y, a, b, s, h1, h2, M⟩ := zjv (n := c) hs hxc hz hm (by omega) hp ht he he2 hk
 unfold zho
 rw [h1]
 exact qai hq hU hW hc 13 y (zan ep 1000) [a, b] H c 0 (by rw [h2]; exact M) hH (fun j hj => by omega) (by omega) (by omega) (by omega)
theorem qa2 {cap : Int} {h : List (List Res)} (hh : Hist cap h) (k : Nat) : Hist cap (h.take (k + 1)) := by
 refine ⟨by rw [List.getElem?_take_of_lt (by omega)]; exact hh.first, fun i now l h1 h2 => ?_⟩
 have hi : i + 1 < k + 1 := by
  have := (List.getElem?_eq_some_iff.1 h2).1
  rw [List.length_take] at this; omega
 rw [List.getElem?_take_of_lt (by omega)] at h1
 rw [List.getElem?_take_of_lt hi] at h2
 exact hh.step i now l h1 h2
theorem zil {p : Store} (hp : sanS p = true) (k : Nat) : sanS ⟨p.cap, p.hist.take (k + 1)⟩ = true := by
 obtain ⟨h1, h2, h3⟩ := (zdp p).1 hp
 refine (zdp _).2 ⟨h1, ?_, qa2 h3 k⟩
 simp only [List.length_take]; omega
theorem zvo {p : Store} (hp : sanS p = true) {k : Nat} {l : List Res} (hk : p.hist[k]? = some l) : nowL ⟨p.cap, p.hist.take (k + 1)⟩ = l := by
 unfold nowL
 rw [zb3 (zil hp k)]
 exact zjy hk
theorem meets {p : Store} (hp : sanS p = true) {k : Nat} {l : List Res} (hk : p.hist[k]? = some l) (hl : l.length + (nowL p).length ≤ 64 ∨ l = nowL p) :
  ∃ a s1 b s n, zho (newX 64 1000) ⟨p.cap, p.hist.take (k + 1)⟩ 1 = (a, s1, true) ∧ zho a p 2 = (b, s, true) ∧ Mt b s (nowL p) 2 n ∧ pump s p = (s, [], 0) ∧ zea s p = true := by
 have hl0 := zvo hp hk
 have hq := zil hp k
 have tl := tab_len (zep hq)
 rw [hl0] at tl
 obtain ⟨a, s1, n1, h1, M1, hn1, _, _⟩ := zvp (x := newX 64 1000) (q := ⟨p.cap, p.hist.take (k + 1)⟩) (H := []) (ep := 1) (c := 1) hq (U := l.map Res.key) (by simpa using tl) (fun r hr => by rw [hl0] at hr; exact List.mem_map.2 ⟨r, hr, rfl⟩) (by simp) (by omega)
  (zfh _ _) rfl (by simp [newX]) rfl (by simp [newX]) (by simp [newX]) (by simp [newX]) (by omega) rfl
 rw [hl0] at M1
 have hkn : zci p (zch l) = l := zn6 hp (i := (k : Int)) (by
  unfold atS
  rw [if_pos (by omega), zb3 hp]; simpa using hk)
 obtain ⟨b, s, n, h2, M2, _, h3, h4⟩ := zvp (x := a) (q := p) (H := l) (ep := 2) (c := 100) hp (U := if l = nowL p then l.map Res.key else l.map Res.key ++ (nowL p).map Res.key) (by
   split
   ·simpa using tl
   ·rename_i h; simpa using hl.resolve_right h) (fun r hr => by
   split
   ·rename_i h; rw [← h] at hr; exact List.mem_map.2 ⟨r, hr, rfl⟩
   ·exact List.mem_append.2 (.inr (List.mem_map.2 ⟨r, hr, rfl⟩))) (fun r hr => by
   split
   ·exact List.mem_map.2 ⟨r, hr, rfl⟩
   ·exact List.mem_append.2 (.inl (List.mem_map.2 ⟨r, hr, rfl⟩))) (by omega)
  M1.xs M1.xc M1.xz (by rw [M1.inn]; exact M1.om) (by have := M1.xn; omega) (by have := M1.xt; omega) (by rw [M1.xe]; omega) (by omega) hkn
 exact ⟨a, s1, b, s, n, h1, h2, M2, h3, h4⟩
end Go.G
end
section
namespace Go.G
open Go.AI
@[simp] theorem lenAll_snap (l : List Snap) : zbt (l.map zdu) 3 = True := zbj (f := zdu) (n := 3) (fun _ => rfl) l
def ahP (l : List Snap) : Int := match l.getLast? with
 | some s => s.id
 | none => 0
@[simp] theorem ahP_nil : ahP [] = 0 := rfl
@[simp] theorem zhi (l : List Snap) (s : Snap) : ahP (l ++ [s]) = s.id := by simp [ahP]
structure OkX (s : Side) : Prop where
 c : OkRs s.w.c.l
 cl : s.w.c.l.length ≤ 1000
 shown : OkRs s.w.shown
 snaps : ∀ q ∈ s.p.snaps, OkRs q.l ∧ q.l.length ≤ 64
 next : s.p.next ≤ 2147483648
 sl : s.p.snaps.length ≤ 1000000
end Go.G
namespace Go.G
open Go.AI
structure OkPins (p : Pins) : Prop where
 snaps : ∀ q ∈ p.snaps, OkRs q.l ∧ q.l.length ≤ 64
 next : p.next ≤ 2147483648
 sl : p.snaps.length ≤ 1000000
theorem OkPins.sound {p : Pins} (h : OkPins p) : OkPins (zbz p) := by
 unfold zbz
 split
 ·exact h
 ·exact ⟨by simp, by decide, by simp⟩
theorem zk6 (p : Pins) : (zbz p).snaps.length ≤ 1000 := (saneP_iff.1 (zh0 p)).2.2.2
theorem zlp {l : List Snap} (h : ∀ q ∈ l, q.l.length ≤ 64) : (l.flatMap (·.l)).length ≤ 64 * l.length := by
 induction l with
 | nil => simp
 | cons s r ih =>
   have := ih fun q hq => h q (by simp [hq])
   have := h s (by simp)
   simp only [List.flatMap_cons, List.length_append, List.length_cons]; omega
theorem qd0 {p : Pins} (h : OkPins p) : (zc4 p).length ≤ 64000 := by
 unfold zc4 qd1
 have h1 := zlp fun q hq => (h.sound.snaps q hq).2
 have h2 := zk6 p
 obtain ⟨a1, a2⟩ := zdx ((((zbz p).snaps.flatMap (·.l)).map Res.key)) (o := []) (by simp [Asc])
 have := zf8 (zs3 a1) (b := ((zbz p).snaps.flatMap (·.l)).map Res.key) (fun k hk => by rw [a2] at hk; simpa using hk)
 rw [List.length_map] at this; omega
theorem zxo {α : Type} (l : List α) : l = [] ∨ ∃ i s, l = i ++ [s] := by
 rcases List.eq_nil_or_concat l with h | ⟨i, s, h⟩
 ·exact .inl h
 ·exact .inr ⟨i, s, by simpa using h⟩
theorem OkX.pins {s : Side} (h : OkX s) : OkPins s.p := ⟨h.snaps, h.next, h.sl⟩
theorem zyq (n : Int) : zax n = (decide (n < 0) || decide (15 < n)) := by
 rw [zax, rngB]
 by_cases h1 : n < 0 <;> by_cases h2 : 15 < n <;> simp [h1, h2] <;> omega
end Go.G
end
section
namespace Go.G
open Go.AI
theorem zma {l : List Res} (h : OkRs l) (p : Res → Bool) : OkRs (l.filter p) := ⟨Nat.le_trans (List.length_filter_le _ _) h.len, fun r hr => h.all r (List.mem_filter.1 hr).1⟩
theorem zre {c : Cache} (h : OkRs c.l) : OkRs (zdd c).l := by
 unfold zdd
 split
 ·exact h
 ·exact ⟨by simp [newC], fun r hr => by simp [newC] at hr⟩
theorem zri {c : Cache} {adds : List Res} {gone : List Key} (h : OkRs c.l) (ha : OkRs adds) (hl : adds.length ≤ 1000) : OkRs (zd8 c adds gone).1.l := by
 have h1 := zre h
 have h2 := tab_len (saneC_iff.1 (zh1 c)).2.1
 unfold zd8 zhy
 split
 ·exact zo1 h1 ha (by omega)
 ·exact h1
theorem zrd {w : Warm} (h : OkRs w.c.l) (hs : OkRs w.shown) : OkRs (zds w).c.l ∧ OkRs (zds w).shown := by
 unfold zds
 split
 ·exact ⟨h, hs⟩
 ·exact ⟨⟨by simp [newW, newC], fun r hr => by simp [newW, newC] at hr⟩, ⟨by simp [newW], fun r hr => by simp [newW] at hr⟩⟩
theorem zrf {c : Cache} (h : OkRs c.l) : OkRs (zd7 c) := zma (zre h) _
theorem ok_nil : OkRs [] := ⟨by simp, fun r hr => by simp at hr⟩
theorem zvi {w : Warm} {adds : List Res} {gone : List Key} (h : OkRs w.c.l) (hs : OkRs w.shown) (ha : OkRs adds) (hl : adds.length ≤ 1000) : OkRs (zdr w adds gone).1.c.l ∧ OkRs (zdr w adds gone).1.shown := by
 obtain ⟨h1, h2⟩ := zrd h hs
 unfold zdr zgg
 split
 ·exact ⟨h1, h2⟩
 ·have h3 := zri (gone := gone) h1 ha hl
  unfold zgk
  split
  ·exact ⟨h3, h2⟩
  ·exact ⟨h3, zrf h3⟩
theorem zqd (w : Warm) (adds : List Res) (gone : List Key) : (zdr w adds gone).1.c.l.length ≤ 64 ∧ (zdr w adds gone).1.shown.length ≤ 64 := by
 have h := saneW_iff.1 (zqc w adds gone)
 have h1 := tab_len (saneC_iff.1 h.1).2.1
 refine ⟨h1, ?_⟩
 rw [h.2.1]
 exact Nat.le_trans (List.length_filter_le _ _) h1
theorem zno {p : Pins} (h : OkPins p) {l : List Res} (hl : OkRs l) (hl2 : l.length ≤ 64) : OkPins (zby p l).1 := by
 have hs := saneP_iff.1 (ze2 p l)
 have h1 := h.sound.snaps
 refine ⟨?_, by omega, by omega⟩
 unfold zby zct
 split
 ·exact h1
 ·split
  ·exact h1
  ·intro q hq
   rcases List.mem_append.1 hq with hq | hq
   ·exact h1 q (List.mem_filter.1 hq).1
   ·rw [List.mem_singleton.1 hq]; exact ⟨hl, hl2⟩
theorem OkX.mk' {s : Side} (h1 : OkRs s.w.c.l) (h2 : s.w.c.l.length ≤ 1000) (h3 : OkRs s.w.shown) (hp : OkPins s.p) : OkX s := ⟨h1, h2, h3, hp.snaps, hp.next, hp.sl⟩
theorem OkX.new (l m : Int) : OkX (newX l m) := .mk' ok_nil (by simp [newX, newW, newC]) ok_nil ⟨by simp [newX], by simp [newX], by simp [newX]⟩
theorem OkX.sound {s : Side} (h : OkX s) : OkX (zco s) := by
 unfold zco
 split
 ·exact h
 ·exact .new _ _
theorem OkX.step {s : Side} (h : OkX s) {f : Frame} (ha : OkRs f.adds) (hl : f.adds.length ≤ 1000) : OkX (zfa s f).1 := by
 obtain ⟨h1, h2⟩ := zvi (gone := f.gone) h.c h.shown ha hl
 obtain ⟨h3, h4⟩ := zqd s.w f.adds f.gone
 unfold zfa
 dsimp only
 generalize zdr s.w f.adds f.gone = W at h1 h2 h3 h4 ⊢
 obtain ⟨w', ch, why⟩ := W
 simp only at h1 h2 h3 h4 ⊢
 cases ch with
 | false =>
   simp only [Bool.false_eq_true, false_and, if_false]
   split
   ·exact .mk' h.c h.cl h.shown h.pins
   ·exact .mk' h1 (by simp only; omega) h2 h.pins
 | true =>
   simp only [true_and, if_true]
   split
   ·exact h
   ·split
    ·exact .mk' h.c h.cl h.shown h.pins
    ·exact .mk' h1 (by simp only; omega) h2 (zno h.pins h2 h4)
theorem zwz (s : Side) (f : Frame) : (zfa s f).1.turn = s.turn := by
 unfold zfa
 dsimp only
 (repeat' split) <;> rfl
theorem zqx {s : Side} {f : Frame} (h : zbm s f = 0) : za6 f = 0 := by
 unfold zbm at h
 split at h
 ·cases h
 ·split at h
  ·rename_i h1; exact absurd h h1
  ·rename_i h1; exact Decidable.not_not.1 h1
theorem zyu {s : Side} (h : zck s = true) : 0 ≤ s.turn ∧ s.turn ≤ 2147483647 := rngB_iff.1 (saneX_iff.1 h).turn
end Go.G
end
section
namespace Go.G
open Go.AI
theorem qjm {s : Str} {n : Nat} (h : (bs s).length ≤ n) (hn : n ≤ 9223372036854775807) : nB s := Nat.le_trans h hn
theorem zvl {r : Res} (h : zbl r = 0) : OkRes r := by
 obtain ⟨h1, h2, h3, h4, h5, h6⟩ := zeh h
 have n1 := zz9 h2
 simp only [zb0, Bool.and_eq_true, decide_eq_true_eq, List.all_eq_true, zgs] at h3
 refine ⟨qjm n1 (by omega), ?_, by omega, fun x hx => ?_, by omega⟩
 ·by_cases ht : mayT r.kind = true
  ·simp only [zgw, ht, Bool.not_true, Bool.false_or, Bool.and_eq_true] at h5
   exact qjm (zz9 h5.1) (by omega)
  ·simp only [zfb, ht, Bool.or_false, Bool.and_eq_true, decide_eq_true_eq] at h4
   unfold nB; rw [h4.1.1.2]; simp
 ·have := (h3.2 x hx).1
  omega
theorem zrc {l : List Res} (h : tabE l = 0) : OkRs l := ⟨by have := tab_len h; omega, fun r hr => zvl (zd2 h hr)⟩
theorem zfj {f : Frame} (h : za6 f = 0) : OkFrame f := by
 have F := frameE_zero.1 h
 have L := zcp F.small
 exact ⟨⟨by omega, fun r hr => zvl (F.adds r hr)⟩, by omega, by omega, by omega⟩
theorem zj1 {s : Sess} {q : Store} {f : Frame} (h : (handle s q f).2 = 0) : za6 f = 0 := by
 unfold handle zbq at h
 split at h
 ·rename_i h1; exact absurd h h1
 ·rename_i h1; exact Decidable.not_not.1 h1
theorem zjs {s : Sess} (q : Store) (f : Frame) (hs : zba s = true) (hp : OkFrame s.v.push) : OkFrame (handle s q f).1.v.push := by
 rcases zmm q f hs with e | e
 ·rw [e]; exact hp
 ·rw [e]; exact zgp
theorem zfs (q : Store) : ∀ (l : List Frame) {s : Sess}, zba s = true → OkFrame s.v.push → zba (l.foldl (fun s f => (handle s q f).1) s) = true ∧ OkFrame (l.foldl (fun s f => (handle s q f).1) s).v.push
 | [], _, h1, h2 => ⟨h1, h2⟩
 | f :: l, _, h1, h2 => zfs q l (zes q f h1) (zjs q f h1 h2)
theorem Mt.okx {x : Side} {s : Sess} {H : List Res} {ep : Int} {n : Nat} (M : Mt x s H ep n) : OkX x := by
 obtain ⟨h1, h2, h3⟩ := M.tab
 have X := saneX_iff.1 M.xs
 have hp := saneP_iff.1 X.p
 have hsh : OkRs x.w.shown := by rw [h3]; exact zma (zrc h1) _
 have hl : x.w.shown.length ≤ 64 := by rw [h3]; exact Nat.le_trans (List.length_filter_le _ _) (tab_len h1)
 refine ⟨by rw [M.xc]; exact zrc h1, by rw [M.xc]; have := tab_len h1; simp only; omega, hsh, ?_, by omega, by omega⟩
 have hA := X.agrees
 unfold zcn curP at hA
 rw [zfe X.p] at hA
 rcases znf hp.1 M.xz with e | ⟨c, e⟩
 ·rw [e]; simp
 ·rw [e] at hA ⊢
  simp only [List.getLast?_singleton, Bool.and_eq_true, decide_eq_true_eq] at hA
  intro q hq
  rw [List.mem_singleton.1 hq, hA.2]
  exact ⟨hsh, hl⟩
theorem Mt.oks {x : Side} {s : Sess} {H : List Res} {ep : Int} {n : Nat} (M : Mt x s H ep n) (hp : OkFrame s.v.push) : OkSess s := by
 have S := saneS_iff.1 M.ss
 exact ⟨⟨by rw [M.sh]; exact zrc M.tab.1, by have := S.dl; omega, hp⟩⟩
structure MI (q : Store) (U : List Key) (c : Nat) (ep : Int) (res : Side × Sess × Bool) (k : Nat) (x : Side) (s : Sess) (l : List Frame) : Prop where
 k13 : k ≤ 13
 ss : zba s = true
 sp : OkFrame s.v.push
 lf : ∀ f ∈ l, OkFrame f
 ll : l.length ≤ 2
 go : zns q (13 - k) x s l = res
 mt : ∃ H n m, Mt x (l.foldl (fun s f => (handle s q f).1) s) H ep n ∧ (∀ r ∈ H, r.key ∈ U) ∧ (∀ j, j < m → Qp H (nowL q) j) ∧ m ≤ 10 ∧ 11 ≤ m + (13 - k) ∧ n ≤ c + m
theorem MI.start {q : Store} {U : List Key} {c : Nat} {ep : Int} {x y : Side} {H : List Res} {l : List Frame} (hM : Mt y (l.foldl (fun s f => (handle s q f).1) (zan ep 1000)) H ep c) (hH : ∀ r ∈ H, r.key ∈ U) (hl : l.length ≤ 2) (hf : ∀ f ∈ l, OkFrame f) (e : zaz x ep = (y, l, 0)) :
  MI q U c ep (zho x q ep) 0 y (zan ep 1000) l :=
 ⟨by omega, zcy _ _, zgp, hf, hl, by unfold zho; rw [e], H, c, 0, hM, hH, fun j h => absurd h (Nat.not_lt_zero j), by omega, by omega, by omega⟩
theorem MI.round {q : Store} (hq : sanS q = true) {U : List Key} (hU : U.length ≤ 64) (hW : ∀ r ∈ nowL q, r.key ∈ U) {c : Nat} (hc : c ≤ 500) {ep : Int} {res : Side × Sess × Bool} {k : Nat} {x : Side} {s : Sess} {l : List Frame} (I : MI q U c ep res k x s l) {s' : Sess} (hs : l.foldl (fun s f => (handle s q f).1) s = s') :
  k < 13 ∧ OkX x ∧ OkSess s' ∧ zba s' = true ∧ OkFrame s'.v.push ∧ ((pump s' q = (s', [], 0) ∧ res = (x, s', true)) ∨
   ∃ t f y a, pump s' q = (t, [f], 0) ∧ zgu x f = (y, [a], 0) ∧ OkFrame f ∧ MI q U c ep res (k + 1) y t [a]) := by
 obtain ⟨H, n, m, M, hH, hj, hm, hf, hn⟩ := I.mt
 obtain ⟨g1, g2⟩ := zfs q l I.ss I.sp
 rw [hs] at M g1 g2
 have hk : k < 13 := by have := I.k13; omega
 refine ⟨hk, M.okx, M.oks g2, g1, g2, ?_⟩
 have hgo := I.go
 rw [show 13 - k = (13 - (k + 1)) + 1 by omega] at hgo
 simp only [zns, hs] at hgo
 cases hx : zeq H (nowL q) s'.v.held with
 | none =>
   obtain ⟨h1, _⟩ := zt4 M hq hx
   rw [h1] at hgo
   exact .inl ⟨h1, by rw [← hgo]; rfl⟩
 | some st =>
   have hA : Acc q.cap (nowL q) := by unfold nowL; rw [zb3 hq]; exact zim hq
   obtain ⟨p1, p2, p3, p4⟩ := zl7 (M.pl hA) hU hH hW hx
   obtain ⟨t, f, T⟩ := zt3 M hq (by omega) hx p1 p2
   obtain ⟨y, a, z, b, v, u, k1, k2, k3, k4, k5, k6, k7, k8⟩ := T.go
   obtain ⟨h5, h6⟩ := p4 m hj
   rw [T.pump] at hgo
   simp only [k1] at hgo
   refine .inr ⟨t, f, y, a, T.pump, k1, zfj T.fs, by omega, T.ts, by rw [T.push]; exact zfj T.fs, fun g hg => ?_, by simp, hgo, _, n + 1, m + 1, ?_, p3, h6, by omega, by omega, by omega⟩
   ·rw [List.mem_singleton.1 hg]; exact zfj (zj1 (by rw [k3]))
   ·simpa [k3] using k7
end Go.G
end
section
namespace Go.G
open Go.AI
theorem zhx {x : Side} {ep : Int} (hs : zck x = true) (hc : x.w.c.l.length ≤ 64) : ∀ f ∈ (zaz x ep).2.1, OkFrame f := by
 have hp : (zc4 x.p).length ≤ 64 := (room_iff.1 (saneX_iff.1 hs).room).1
 unfold zaz zcd
 rw [zgt hs]
 intro f hf
 split at hf
 ·simp at hf
 split at hf
 ·simp at hf
 simp only [List.mem_cons, List.not_mem_nil, or_false] at hf
 rcases hf with rfl | rfl
 ·exact ⟨⟨by simp [ze5], by simp [ze5]⟩, by simp [ze5], by simp [ze5, zcv]; omega, by simp [ze5]⟩
 ·exact ⟨⟨by simp [zhw], by simp [zhw]⟩, by simp [zhw], by simp [zhw], by simp only [zhw, zcv]; omega⟩
theorem qe7 {x : Side} {q : Store} {H : List Res} {ep : Int} {c : Nat} {U : List Key} (hH : ∀ r ∈ H, r.key ∈ U) (hc : c ≤ 500)
  (hs : zck x = true) (hxc : x.w.c = ⟨64, H⟩) (hz : ∀ s ∈ x.p.snaps, s.pins = 0) (hm : x.inn.m = 1000) (hp : x.p.next ≤ 100 + c) (ht : x.turn + 1 ≤ 100 + 2 * c) (he : x.epoch < ep) (he2 : ep ≤ 2147483647) (hk : zci q (zch H) = H) (hl : H.length ≤ 64) :
  MI q U c ep (zho x q ep) 0 (zaz x ep).1 (zan ep 1000) (zaz x ep).2.1 := by
 have hF := zhx (ep := ep) hs (by rw [hxc]; exact hl)
 obtain ⟨y, a, b, s, h1, h2, M⟩ := zjv (n := c) (q := q) hs hxc hz hm (by omega) hp ht he he2 hk
 rw [h1] at hF ⊢
 exact MI.start (by rw [h2]; exact M) hH (by simp) hF h1
abbrev RunI (q : Store) (x : Side) (ep : Int) : Prop := ∃ (U : List Key) (c : Nat), U.length ≤ 64 ∧ (∀ r ∈ nowL q, r.key ∈ U) ∧ c ≤ 500 ∧ MI q U c ep (zho x q ep) 0 (zaz x ep).1 (zan ep 1000) (zaz x ep).2.1
theorem qhd {p : Store} (hp : sanS p = true) {k : Nat} {l : List Res} (hk : p.hist[k]? = some l) (hl : l.length + (nowL p).length ≤ 64 ∨ l = nowL p) :
  ∃ a s1 b s n, RunI ⟨p.cap, p.hist.take (k + 1)⟩ (newX 64 1000) 1 ∧ OkX a ∧ zho (newX 64 1000) ⟨p.cap, p.hist.take (k + 1)⟩ 1 = (a, s1, true) ∧ RunI p a 2 ∧ zho a p 2 = (b, s, true) ∧ Mt b s (nowL p) 2 n ∧ pump s p = (s, [], 0) ∧ zea s p = true := by
 have hl0 := zvo hp hk
 have hq := zil hp k
 have tl := tab_len (zep hq)
 rw [hl0] at tl
 obtain ⟨a, s1, n1, h1, M1, hn1, _, _⟩ := zvp (x := newX 64 1000) (q := ⟨p.cap, p.hist.take (k + 1)⟩) (H := []) (ep := 1) (c := 1) hq (U := l.map Res.key) (by simpa using tl) (fun r hr => by rw [hl0] at hr; exact List.mem_map.2 ⟨r, hr, rfl⟩) (by simp) (by omega)
  (zfh _ _) rfl (by simp [newX]) rfl (by simp [newX]) (by simp [newX]) (by simp [newX]) (by omega) rfl
 have I1 := qe7 (x := newX 64 1000) (q := ⟨p.cap, p.hist.take (k + 1)⟩) (H := []) (ep := 1) (c := 1) (U := l.map Res.key) (by simp) (by omega)
  (zfh _ _) rfl (by simp [newX]) rfl (by simp [newX]) (by simp [newX]) (by simp [newX]) (by omega) rfl (by simp)
 rw [hl0] at M1
 have hkn : zci p (zch l) = l := zn6 hp (i := (k : Int)) (by
  unfold atS
  rw [if_pos (by omega), zb3 hp]; simpa using hk)
 have u1 : (if l = nowL p then l.map Res.key else l.map Res.key ++ (nowL p).map Res.key).length ≤ 64 := by
  split
  ·simpa using tl
  ·rename_i h; simpa using hl.resolve_right h
 have u2 : ∀ r ∈ nowL p, r.key ∈ (if l = nowL p then l.map Res.key else l.map Res.key ++ (nowL p).map Res.key) := fun r hr => by
  split
  ·rename_i h; rw [← h] at hr; exact List.mem_map.2 ⟨r, hr, rfl⟩
  ·exact List.mem_append.2 (.inr (List.mem_map.2 ⟨r, hr, rfl⟩))
 have u3 : ∀ r ∈ l, r.key ∈ (if l = nowL p then l.map Res.key else l.map Res.key ++ (nowL p).map Res.key) := fun r hr => by
  split
  ·exact List.mem_map.2 ⟨r, hr, rfl⟩
  ·exact List.mem_append.2 (.inl (List.mem_map.2 ⟨r, hr, rfl⟩))
 obtain ⟨b, s, n, h2, M2, _, h3, h4⟩ := zvp (x := a) (q := p) (H := l) (ep := 2) (c := 100) hp u1 u2 u3 (by omega)
  M1.xs M1.xc M1.xz (by rw [M1.inn]; exact M1.om) (by have := M1.xn; omega) (by have := M1.xt; omega) (by rw [M1.xe]; omega) (by omega) hkn
 have I2 := qe7 (x := a) (q := p) (H := l) (ep := 2) (c := 100) u3 (by omega)
  M1.xs M1.xc M1.xz (by rw [M1.inn]; exact M1.om) (by have := M1.xn; omega) (by have := M1.xt; omega) (by rw [M1.xe]; omega) (by omega) hkn tl
 exact ⟨a, s1, b, s, n, ⟨_, 1, by simpa using tl, fun r hr => by rw [hl0] at hr; exact List.mem_map.2 ⟨r, hr, rfl⟩, by omega, I1⟩, M1.okx, h1, ⟨_, 100, u1, u2, by omega, I2⟩, h2, M2, h3, h4⟩
theorem qeh {p : Store} (hp : sanS p = true) (i : Int) (h : ((atS p i).getD []).length + (nowL p).length ≤ 60) :
  ∃ l, p.hist[(max 0 (min i (p.hist.length - 1))).toNat]? = some l ∧ (l.length + (nowL p).length ≤ 64 ∨ l = nowL p) ∧ 1 ≤ p.hist.length ∧ max 0 (min i (p.hist.length - 1)) < p.hist.length := by
 have H := ((zdp p).1 hp).2.2
 have h0 := H.first
 have hlen : 1 ≤ p.hist.length := by
  have := (List.getElem?_eq_some_iff.1 h0).1
  omega
 have htk := zb3 hp
 by_cases hi : i < 0
 ·refine ⟨[], ?_, .inl (by simp; omega), hlen, by omega⟩
  rw [show max 0 (min i ((p.hist.length : Int) - 1)) = 0 by omega]; exact h0
 by_cases hb : i < p.hist.length
 ·have e : max 0 (min i ((p.hist.length : Int) - 1)) = i := by omega
  rw [e]
  have hg : p.hist[i.toNat]? = some p.hist[i.toNat] := List.getElem?_eq_getElem (by omega)
  refine ⟨_, hg, .inl ?_, hlen, hb⟩
  unfold atS at h
  rw [if_pos (by omega), htk, hg] at h
  simp only [Option.getD_some] at h
  omega
 ·have e : max 0 (min i ((p.hist.length : Int) - 1)) = p.hist.length - 1 := by omega
  rw [e]
  have hg : p.hist[((p.hist.length : Int) - 1).toNat]? = some p.hist[((p.hist.length : Int) - 1).toNat] := List.getElem?_eq_getElem (by omega)
  refine ⟨_, hg, .inr ?_, hlen, by omega⟩
  unfold nowL zam
  rw [htk, List.getLastD_eq_getLast?, List.getLast?_eq_getElem?]
  rw [show p.hist.length - 1 = ((p.hist.length : Int) - 1).toNat by omega, hg]
  rfl
end Go.G
namespace Go.G
open Go.AI
theorem Mt.shown {x : Side} {s : Sess} {H : List Res} {ep : Int} {n : Nat} (M : Mt x s H ep n) : ((znh x).map (·.l)).getD [] = zal H ∧ ((znh x).isSome = false → zal H = []) := by
 obtain ⟨_, _, h3⟩ := M.tab
 have X := saneX_iff.1 M.xs
 have hw := (saneW_iff.1 X.w).2.2
 have hA := X.agrees
 unfold znh
 rw [zgt M.xs]
 unfold zcn at hA
 rw [← h3]
 cases e : curP x.p with
 | none =>
   rw [e] at hA
   simp only [Bool.not_eq_true'] at hA
   have : x.w.shown = [] := hw.resolve_left (by simp [hA])
   simp [this]
 | some c =>
   rw [e] at hA
   simp only [Bool.and_eq_true, decide_eq_true_eq] at hA
   simp [hA.2]
theorem MI.fin {q : Store} (hq : sanS q = true) {U : List Key} (hU : U.length ≤ 64) (hW : ∀ r ∈ nowL q, r.key ∈ U) {c : Nat} (hc : c ≤ 500) {ep : Int} {res : Side × Sess × Bool} : ∀ (n : Nat) {k : Nat} {x : Side} {s : Sess} {l : List Frame}, MI q U c ep res k x s l → 13 - k = n → OkFrame res.2.1.v.push
 | 0, k, _, _, _, I, h => by have := (I.round hq hU hW hc rfl).1; omega
 | n + 1, k, x, s, l, I, h => by
   obtain ⟨_, _, _, _, r5, r6⟩ := I.round hq hU hW hc rfl
   rcases r6 with ⟨_, e⟩ | ⟨_, _, _, _, _, _, _, I'⟩
   ·rw [e]; exact r5
   ·exact MI.fin hq hU hW hc n I' (by omega)
theorem RunI.ok {q : Store} (hq : sanS q = true) {x : Side} {ep : Int} (h : RunI q x ep) : OkFrame (zho x q ep).2.1.v.push := by
 obtain ⟨U, c, h1, h2, h3, I⟩ := h
 exact MI.fin hq h1 h2 h3 13 I rfl
end Go.G
end
