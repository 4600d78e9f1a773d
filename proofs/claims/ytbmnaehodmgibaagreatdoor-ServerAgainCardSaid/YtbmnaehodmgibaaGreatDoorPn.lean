/-
  LAYER 9: histories step by step; what does not hang on versions: plain laws.
-/
import Derived.Test.YtbmnaehodmgibaaGreatDoorPm
set_option linter.unusedSimpArgs false
set_option linter.unusedVariables false
section
namespace Go.G
theorem zfq : ∀ (g : List Key) (l : List Res) (k : Key), getR (g.foldl zbx l) k = if k ∈ g then none else getR l k
 | [], l, k => by simp
 | q :: g, l, k => by
   rw [List.foldl_cons, zfq g, zsf]
   by_cases h : k ∈ g
   ·simp [h]
   ·by_cases e : q = k
    ·subst e; simp
    ·have : ¬ k = q := fun e' => e e'.symm
     simp [h, e, this]
def zjz (l : List Res) (k : Key) : Option Res := l.reverse.find? fun r => decide (r.key = k)
theorem zhv : ∀ (a l : List Res) (k : Key), getR (a.foldl zej l) k = match zjz a k with | some r => some r | none => getR l k
 | [], l, k => by simp [zjz]
 | m :: a, l, k => by
   rw [List.foldl_cons, zhv a]
   unfold zjz
   rw [List.reverse_cons, List.find?_append]
   cases h : a.reverse.find? _ with
   | some x => rfl
   | none =>
     simp only [Option.none_or]
     rw [qa8]
     by_cases e : m.key = k <;> simp [e]
theorem zi8 (l a : List Res) (g : List Key) (k : Key) : getR (zac l a g) k = match zjz a k with | some r => some r | none => if k ∈ g then none else getR l k := by
 unfold zac
 rw [zhv, zfq]
theorem zbr {l : List Res} (h : AscR l) (p : Res → Bool) : AscR (l.filter p) := by
 unfold AscR Asc at *
 exact h.sublist ((List.filter_sublist).map _)
theorem qb1 {l : List Res} (h : AscR l) (r : Res) : AscR (zej l r) := by
 have h1 := zbr h fun x => decide (cmpK x.key r.key = -1)
 have h2 := zbr h fun x => decide (cmpK x.key r.key = 1)
 have a1 : ∀ x ∈ (zhn l r.key (-1)).map Res.key, cmpK x r.key = -1 := by
  intro x hx
  obtain ⟨a, ha, rfl⟩ := List.mem_map.1 hx
  simpa using (List.mem_filter.1 ha).2
 have a2 : ∀ x ∈ (zhn l r.key 1).map Res.key, cmpK r.key x = -1 := by
  intro x hx
  obtain ⟨a, ha, rfl⟩ := List.mem_map.1 hx
  have : cmpK a.key r.key = 1 := by simpa using (List.mem_filter.1 ha).2
  rw [zg4, this]
 unfold zej AscR Asc
 rw [List.map_append, List.map_append, List.pairwise_append, List.pairwise_append]
 refine ⟨⟨h1, by simp, ?_⟩, h2, ?_⟩
 ·intro x hx y hy
  have : y = r.key := by simpa using hy
  rw [this]; exact a1 x hx
 ·intro x hx y hy
  rcases List.mem_append.1 hx with h | h
  ·exact zce (a1 x h) (a2 y hy)
  ·have : x = r.key := by simpa using h
   rw [this]; exact a2 y hy
theorem zbf {l : List Res} (h : AscR l) (a : List Res) (g : List Key) : AscR (zac l a g) := by
 unfold zac
 have h1 : ∀ (g : List Key) (l : List Res), AscR l → AscR (g.foldl zbx l) := by
  intro g
  induction g with
  | nil => exact fun _ h => h
  | cons q g ih => exact fun l h => ih _ (zbr h _)
 have h2 : ∀ (a l : List Res), AscR l → AscR (a.foldl zej l) := by
  intro a
  induction a with
  | nil => exact fun _ h => h
  | cons q g ih => exact fun l h => ih _ (qb1 h _)
 exact h2 _ _ (h1 _ _ h)
theorem zpw {a b : List Res} (ha : AscR a) (hb : AscR b) (h : ∀ k, getR a k = getR b k) : a = b := by
 have hk : a.map Res.key = b.map Res.key := zfv ha hb fun k => by rw [mem_keys, mem_keys, h]
 refine List.ext_getElem? fun i => ?_
 have hi := congrArg (fun l => l[i]?) hk
 simp only [List.getElem?_map] at hi
 cases e1 : a[i]? with
 | none =>
   cases e2 : b[i]? with
   | none => rfl
   | some y => simp [e1, e2] at hi
 | some x =>
   cases e2 : b[i]? with
   | none => simp [e1, e2] at hi
   | some y =>
     simp only [e1, e2, Option.map_some, Option.some.injEq] at hi
     have g1 := zau ha (List.mem_of_getElem? e1)
     have g2 := zau hb (List.mem_of_getElem? e2)
     rw [← hi, ← h, g1] at g2
     exact g2
theorem getR_none {l : List Res} {k : Key} : getR l k = none ↔ ∀ r ∈ l, ¬ r.key = k := by
 unfold getR
 rw [List.find?_eq_none]
 simp
theorem lastR_none {l : List Res} {k : Key} : zjz l k = none ↔ ∀ r ∈ l, ¬ r.key = k := by
 unfold zjz
 rw [List.find?_eq_none]
 simp
theorem zxp {l : List Res} {k : Key} {r : Res} (h : zjz l k = some r) : r ∈ l ∧ r.key = k := by
 unfold zjz at h
 exact ⟨by simpa using List.mem_of_find?_eq_some h, by simpa using List.find?_some h⟩
theorem zr7 {l : List Res} (h : AscR l) (k : Key) : zjz l k = getR l k := by
 cases e : zjz l k with
 | none => exact (getR_none.2 (lastR_none.1 e)).symm
 | some r =>
   obtain ⟨h1, h2⟩ := zxp e
   rw [← h2, zau h h1]
theorem mem_diffG {a b : List Res} {k : Key} : k ∈ zda a b ↔ (getR a k).isSome = true ∧ getR b k = none := by
 unfold zda
 rw [List.mem_filter, mem_keys]
 cases getR b k <;> simp
theorem zxf {a b : List Res} (ha : AscR a) (hb : AscR b) : zac a (zca a b) (zda a b) = b := by
 have hd : AscR (zca a b) := zbr hb _
 refine zpw (zbf ha _ _) hb fun k => ?_
 rw [zi8, zr7 hd]
 have mem : ∀ r, r ∈ zca a b ↔ r ∈ b ∧ ¬ getR a r.key = some r := fun r => by simp [zca, List.mem_filter]
 cases hbk : getR b k with
 | none =>
   have h1 : getR (zca a b) k = none := getR_none.2 fun r hr => getR_none.1 hbk r ((mem r).1 hr).1
   simp only [h1]
   split
   ·rfl
   ·rename_i h
    cases h2 : getR a k with
    | none => rfl
    | some x => exact absurd (mem_diffG.2 ⟨by rw [h2]; rfl, hbk⟩) h
 | some r =>
   have hr := zap hbk
   have hk := za3 hbk
   by_cases h : getR a k = some r
   ·have h1 : getR (zca a b) k = none := getR_none.2 fun x hx e => by
     obtain ⟨q1, q2⟩ := (mem x).1 hx
     have := zau hb q1
     rw [e, hbk] at this; cases this
     rw [e] at q2; exact q2 h
    have h2 : k ∉ zda a b := fun hm => by have := (mem_diffG.1 hm).2; rw [hbk] at this; cases this
    simp only [h1, if_neg h2, h]
   ·have : r ∈ zca a b := (mem r).2 ⟨hr, by rw [hk]; exact h⟩
    have := zau hd this
    rw [hk] at this
    simp only [this]
def zgr (now : List Res) (v : Int) (r : Res) : Res := { r with ver := match getR now r.key with
 | some o => if za0 o r then o.ver else v
 | none => v }
theorem zjo (now l : List Res) (v : Int) : zbg now l v = l.map (zgr now v) := rfl
theorem zw5 (now : List Res) (v : Int) (r : Res) : (zgr now v r).key = r.key := rfl
theorem zth (now : List Res) (v : Int) (r : Res) : zgr now v (zgr now v r) = zgr now v r := by
 show ({ zgr now v r with ver := match getR now r.key with | some o => if za0 o r then o.ver else v | none => v } : Res) = zgr now v r
 rfl
theorem zw3 (now l : List Res) (v : Int) : zbg now (zbg now l v) v = zbg now l v := by
 rw [zjo, zjo, List.map_map]
 exact List.map_congr_left fun r _ => zth now v r
theorem zw4 {now : List Res} {v : Int} {o r : Res} (h : getR now r.key = some o) (ha : za0 o r = true) : zgr now v r = o := by
 unfold zgr
 rw [h]
 simp only [ha, if_true]
 exact zwj ha
structure Hist (cap : Int) (h : List (List Res)) : Prop where
 first : h[0]? = some []
 step : ∀ (i : Nat) now l, h[i]? = some now → h[i + 1]? = some l → (∃ p, l = zbg now p ((i : Int) + 1)) ∧ zb1 cap (i + 1) now l = 0
theorem Hist.asc {cap : Int} {h : List (List Res)} (hh : Hist cap h) {i : Nat} {l : List Res} (hl : h[i]? = some l) : AscR l := by
 cases i with
 | zero => rw [hh.first] at hl; cases hl; simp
 | succ i =>
   have hi : i < h.length := by have := (List.getElem?_eq_some_iff.1 hl).1; omega
   exact zai (zmy (hh.step i h[i] l (List.getElem?_eq_getElem hi) hl).2)
theorem zjy {cap : Int} {h : List (List Res)} {i : Nat} {now : List Res} (hn : h[i]? = some now) : zam ⟨cap, h.take (i + 1)⟩ = now := by
 unfold zam
 rw [List.getLastD_eq_getLast?, zr4 hn]; rfl
theorem qhr {cap : Int} {h : List (List Res)} (hh : Hist cap h) : ∀ (m i : Nat), i + 1 + m = h.length → zc6 ⟨cap, h.take (i + 1)⟩ (h.drop (i + 1)) = true := by
 intro m
 induction m with
 | zero => intro i hi; rw [List.drop_eq_nil_of_le (by omega)]; rfl
 | succ m ih =>
   intro i hi
   have h0 : i < h.length := by omega
   have h1 : i + 1 < h.length := by omega
   have e0 : h[i]? = some h[i] := List.getElem?_eq_getElem h0
   have e1 : h[i + 1]? = some h[i + 1] := List.getElem?_eq_getElem h1
   have hl : zam ⟨cap, h.take (i + 1)⟩ = h[i] := zjy e0
   obtain ⟨⟨p, hp⟩, hc⟩ := hh.step i _ _ e0 e1
   have hlen : (h.take (i + 1)).length = i + 1 := by simp; omega
   have hN : zgl ⟨cap, h.take (i + 1)⟩ (zca h[i] h[i + 1]) (zda h[i] h[i + 1]) = h[i + 1] := by
    unfold zgl
    rw [hl, zxf (hh.asc e0) (hh.asc e1)]
    simp only [hlen]
    have : ((i + 1 : Nat) : Int) = (i : Int) + 1 := by omega
    rw [this, hp, zw3]
   have hE : zh7 ⟨cap, h.take (i + 1)⟩ (zca h[i] h[i + 1]) (zda h[i] h[i + 1]) = 0 := by
    unfold zh7
    rw [hN, hl]
    simp only [hlen]
    exact hc
   rw [List.drop_eq_getElem_cons h1]
   simp only [zc6, hl, hE, hN, decide_true, Bool.true_and]
   have := ih (i + 1) (by omega)
   rwa [List.take_add_one, e1] at this
theorem qa7 {cap : Int} : ∀ (r h : List (List Res)), Hist cap h → zc6 ⟨cap, h⟩ r = true → Hist cap (h ++ r)
 | [], h, hh, _ => by simpa using hh
 | l :: r, h, hh, hs => by
   simp only [zc6, Bool.and_eq_true, decide_eq_true_eq] at hs
   obtain ⟨⟨h1, h2⟩, h3⟩ := hs
   have h0 : 0 < h.length := (List.getElem?_eq_some_iff.1 hh.first).1
   have hn : Hist cap (h ++ [l]) := by
    refine ⟨by rw [List.getElem?_append_left h0]; exact hh.first, fun i now l' e1 e2 => ?_⟩
    have hi : i + 1 < (h ++ [l]).length := (List.getElem?_eq_some_iff.1 e2).1
    simp only [List.length_append, List.length_cons, List.length_nil] at hi
    rw [List.getElem?_append_left (by omega)] at e1
    by_cases hlt : i + 1 < h.length
    ·rw [List.getElem?_append_left hlt] at e2
     exact hh.step i now l' e1 e2
    ·have hie : i + 1 = h.length := by omega
     rw [List.getElem?_append_right (by omega), hie] at e2
     simp at e2; subst e2
     have hl : zam ⟨cap, h⟩ = now := by
      have := zjy (cap := cap) e1
      rwa [hie, List.take_length] at this
     have hE := h1
     unfold zh7 at hE
     rw [h2, hl] at hE
     refine ⟨⟨zac now (zca now l) (zda now l), ?_⟩, by rw [hie]; exact hE⟩
     unfold zgl at h2
     rw [hl] at h2
     have : ((h.length : Nat) : Int) = (i : Int) + 1 := by omega
     simp only [this] at h2
     exact h2.symm
   have := qa7 r (h ++ [l]) hn h3
   simpa using this
theorem zvy (cap : Int) : Hist cap [[]] := ⟨rfl, fun i now l h1 h2 => by simp at h2⟩
theorem zdp (s : Store) : sanS s = true ↔ s.cap = capN s.cap ∧ s.hist.length ≤ 100000 ∧ Hist s.cap s.hist := by
 constructor
 ·intro h
  simp only [sanS, Bool.and_eq_true, decide_eq_true_eq] at h
  obtain ⟨⟨⟨⟨h1, h2⟩, h3⟩, h4⟩, h5⟩ := h
  refine ⟨h1, h3, ?_⟩
  cases hh : s.hist with
  | nil => rw [hh] at h2; simp at h2
  | cons a t =>
    rw [hh] at h4 h5
    simp only [List.headD_cons] at h4
    subst h4
    have := qa7 (cap := s.cap) t [[]] (zvy _) (by
     have e : newS s.cap = ⟨s.cap, [[]]⟩ := by unfold newS; rw [← h1]
     rw [e] at h5; simpa using h5)
    simpa using this
 ·rintro ⟨h1, h2, h3⟩
  have h0 : 0 < s.hist.length := (List.getElem?_eq_some_iff.1 h3.first).1
  have hg := qhr h3 (s.hist.length - 1) 0 (by omega)
  have e : s.hist.take (0 + 1) = [[]] := by
   rw [List.take_add_one, h3.first]; rfl
  rw [e] at hg
  have hd : s.hist.headD [] = [] := by
   have := h3.first
   cases hh : s.hist with
   | nil => rfl
   | cons a t => rw [hh] at this; simpa using this
  have e2 : newS s.cap = ⟨s.cap, [[]]⟩ := by unfold newS; rw [← h1]
  have a1 : 1 ≤ s.hist.length := by omega
  simp only [sanS, decide_eq_true h1, decide_eq_true a1, decide_eq_true h2, decide_eq_true hd, e2, Bool.true_and]
  simpa using hg
theorem Hist.snoc {cap : Int} {h : List (List Res)} (hh : Hist cap h) {p : List Res} {now : List Res} (hn : h[h.length - 1]? = some now) (hc : zb1 cap h.length now (zbg now p h.length) = 0) : Hist cap (h ++ [zbg now p h.length]) := by
 have h0 : 0 < h.length := (List.getElem?_eq_some_iff.1 hh.first).1
 refine ⟨by rw [List.getElem?_append_left h0]; exact hh.first, fun i now' l' e1 e2 => ?_⟩
 have hi : i + 1 < (h ++ [zbg now p h.length]).length := (List.getElem?_eq_some_iff.1 e2).1
 simp only [List.length_append, List.length_cons, List.length_nil] at hi
 rw [List.getElem?_append_left (by omega)] at e1
 by_cases hlt : i + 1 < h.length
 ·rw [List.getElem?_append_left hlt] at e2
  exact hh.step i now' l' e1 e2
 ·have hie : i + 1 = h.length := by omega
  rw [List.getElem?_append_right (by omega), hie] at e2
  simp at e2; subst e2
  have : i = h.length - 1 := by omega
  rw [this, hn] at e1; cases e1
  have e3 : ((h.length : Nat) : Int) = (i : Int) + 1 := by omega
  exact ⟨⟨p, by rw [← e3]⟩, by rw [hie]; exact hc⟩
theorem zr6 {s : Store} (h : 0 < s.hist.length) : s.hist[s.hist.length - 1]? = some (zam s) := by
 unfold zam
 rw [List.getLastD_eq_getLast?, ← List.getLast?_eq_getElem?]
 cases e : s.hist.getLast? with
 | none => rw [List.getLast?_eq_none_iff] at e; rw [e] at h; simp at h
 | some x => rfl
theorem qh3 {cap : Int} {n : Nat} {now next : List Res} (h : zb1 cap n now next = 0) : n < 100000 := by
 unfold zb1 at h
 repeat' (split at h <;> first | (simp at h; done) | skip)
 all_goals first | omega | (rename_i h1; exact absurd h h1) | skip
theorem zy8 {s : Store} (h : sanS s = true) (adds : List Res) (gone : List Key) : sanS (zir s adds gone) = true := by
 unfold zir
 split
 ·rename_i he
  obtain ⟨h1, h2, h3⟩ := (zdp s).1 h
  have h0 : 0 < s.hist.length := (List.getElem?_eq_some_iff.1 h3.first).1
  have hn := qh3 he
  exact (zdp _).2 ⟨h1, by simp; omega, h3.snoc (zr6 h0) he⟩
 ·exact h
theorem qcm {s : Store} (h : sanS s = true) : s.cap = capN s.cap := ((zdp s).1 h).1
theorem zu6 {s : Store} (h : sanS s = true) : 0 < s.hist.length := (List.getElem?_eq_some_iff.1 ((zdp s).1 h).2.2.first).1
theorem zb3 {s : Store} (h : sanS s = true) : zaw s = s := by
 have h0 := zu6 h
 rw [zg8 (by intro e; rw [e] at h0; simp at h0), ← qcm h]
theorem zu7 (n : Int) : sanS (newS n) = true := (zdp _).2 ⟨by simp [newS, zji], by simp [newS], zvy _⟩
structure Acc (cap : Int) (l : List Res) : Prop where
 tab : tabE l = 0
 len : (l.length : Int) ≤ cap
 miss : (zmc l).length = 0
 served : zaq l = 0
theorem qbv {cap : Int} {n : Nat} {now next : List Res} (h : zb1 cap n now next = 0) : Acc cap next ∧ ¬ now = next := by
 have ht := zmy h
 unfold zb1 at h
 rw [if_pos ht] at h
 split at h
 ·simp at h
 ·rename_i h1
  split at h
  ·simp at h
  ·rename_i h2
   split at h
   ·simp at h
   ·rename_i h3
    split at h
    ·simp at h
    ·rename_i h4
     exact ⟨⟨ht, by omega, by omega, by omega⟩, h4⟩
theorem znj : zaq [] = 0 := by decide +kernel
theorem qij {cap : Int} (h : 0 ≤ cap) : Acc cap [] := ⟨by decide +kernel, by simpa using h, by decide +kernel, znj⟩
theorem zpq (n : Int) : 0 ≤ capN n ∧ capN n ≤ 64 := by unfold capN; omega
theorem Hist.acc {cap : Int} (hc : 0 ≤ cap) {h : List (List Res)} (hh : Hist cap h) {i : Nat} {l : List Res} (hl : h[i]? = some l) : Acc cap l := by
 cases i with
 | zero => rw [hh.first] at hl; cases hl; exact qij hc
 | succ i =>
   have hi : i < h.length := by have := (List.getElem?_eq_some_iff.1 hl).1; omega
   exact (qbv (hh.step i h[i] l (List.getElem?_eq_getElem hi) hl).2).1
theorem zim {s : Store} (h : sanS s = true) : Acc s.cap (zam s) := by
 obtain ⟨h1, h2, h3⟩ := (zdp s).1 h
 have h0 := zu6 h
 exact h3.acc (by have := zpq s.cap; omega) (zr6 h0)
structure VerAt (h : List (List Res)) (i : Nat) (r : Res) : Prop where
 is : ∃ j m y, r.ver = ((j + 1 : Nat) : Int) ∧ j + 1 ≤ i ∧ h[j + 1]? = some m ∧ getR m r.key = some r ∧ h[j]? = some y ∧ ∀ o, getR y r.key = some o → za0 o r = false
theorem Hist.ver {cap : Int} {h : List (List Res)} (hh : Hist cap h) : ∀ (i : Nat) (l : List Res), h[i]? = some l → ∀ r ∈ l, VerAt h i r
 | 0, l, hl, r, hr => by rw [hh.first] at hl; cases hl; simp at hr
 | i + 1, l, hl, r, hr => by
   have hi : i < h.length := by have := (List.getElem?_eq_some_iff.1 hl).1; omega
   have e0 : h[i]? = some h[i] := List.getElem?_eq_getElem hi
   obtain ⟨⟨p, hp⟩, hc⟩ := hh.step i _ _ e0 hl
   have hasc := hh.asc hl
   have hg := zau hasc hr
   rw [hp, zjo] at hr
   obtain ⟨q, hq, rfl⟩ := List.mem_map.1 hr
   by_cases hold : ∃ o, getR h[i] q.key = some o ∧ za0 o q = true
   ·obtain ⟨o, ho, ha⟩ := hold
    rw [zw4 ho ha]
    obtain ⟨j, m, y, h1, h2, h3⟩ := (hh.ver i _ e0 o (zap ho)).is
    exact ⟨j, m, y, h1, by omega, h3⟩
   ·have hv : (zgr h[i] ((i : Int) + 1) q).ver = (i : Int) + 1 := by
     unfold zgr
     cases ho : getR h[i] q.key with
     | none => rfl
     | some o =>
       have : ¬ za0 o q = true := fun ha => hold ⟨o, ho, ha⟩
       simp [this]
    refine ⟨i, l, h[i], by rw [hv]; omega, Nat.le_refl _, hl, hg, e0, fun o ho => ?_⟩
    rw [zw5] at ho
    cases ha : za0 o q with
    | false => exact ha
    | true => exact absurd ⟨o, ho, ha⟩ hold
end Go.G
end
section
namespace Go.G
def zm4 (l : List Res) (out : List Key) (k : Key) : Prop := ∀ r, getR l k = some r → ∀ q ∈ za2 r, (getR l q).isSome = true → q ∈ out
theorem zp8 (l : List Res) (n : Nat) (out : List Key) (k : Key) (h : (getR l k).isSome = true) : k ∈ zay l (n + 1) out k := by
 unfold zay
 obtain ⟨r, hr⟩ := Option.isSome_iff_exists.1 h
 rw [hr]
 simp only
 split
 ·assumption
 ·exact zhg (zek l n) _ _ _ (by simp)
theorem zkb (l : List Res) : ∀ (n : Nat) (out : List Key) (k : Key), zia l out < n → ∀ x ∈ zay l n out k, x ∉ out → zm4 l (zay l n out k) x
 | 0, _, _, h => by omega
 | n + 1, out, k, h => by
   intro x hx hno
   unfold zay at hx ⊢
   cases hr : getR l k with
   | none => rw [hr] at hx; exact absurd hx hno
   | some r =>
     rw [hr] at hx
     simp only at hx ⊢
     by_cases hk : k ∈ out
     ·rw [if_pos hk] at hx; exact absurd hx hno
     ·rw [if_neg hk] at hx ⊢
      have hlt : zia l (out ++ [k]) < n := by
       have := qan (l := l) (out := out) (k := k) (mem_keys.2 (by rw [hr]; rfl)) hk
       omega
      have key : ∀ (m : List Key) (o : List Key), zia l o < n → (∀ q ∈ m, (getR l q).isSome = true → q ∈ m.foldl (zay l n) o) ∧ ∀ x ∈ m.foldl (zay l n) o, x ∉ o → zm4 l (m.foldl (zay l n) o) x := by
       intro m
       induction m with
       | nil => exact fun o _ => ⟨fun q hq => by simp at hq, fun x hx hn => absurd hx hn⟩
       | cons q m ih =>
         intro o ho
         rw [List.foldl_cons]
         have hle : zia l (zay l n o q) < n := by
          have := zt9 (l := l) (a := o) (b := zay l n o q) (fun x hx => zek l n o q x hx)
          omega
         obtain ⟨i1, i2⟩ := ih _ hle
         have hsub : ∀ x, x ∈ zay l n o q → x ∈ m.foldl (zay l n) (zay l n o q) := fun x hx => zhg (zek l n) m _ x hx
         refine ⟨fun p hp hs => ?_, fun x hx hn => ?_⟩
         ·rcases List.mem_cons.1 hp with e | e
          ·subst e
           cases n with
           | zero => omega
           | succ n => exact hsub _ (zp8 l n o _ hs)
          ·exact i1 p e hs
         ·by_cases hv : x ∈ zay l n o q
          ·intro r hr p hp hs
           exact hsub _ (zkb l n o q ho x hv hn r hr p hp hs)
          ·exact i2 x hx hv
      obtain ⟨k1, k2⟩ := key (za2 r) (out ++ [k]) hlt
      by_cases hxk : x = k
      ·subst hxk
       intro r' hr' q hq hs
       rw [hr] at hr'; cases hr'
       exact k1 q hq hs
      ·exact k2 x hx (by simp [hno, hxk])
theorem zna (l : List Res) : ∀ x ∈ zc9 l, zm4 l (zc9 l) x := by
 have key : ∀ (m o : List Key), (∀ x ∈ o, zm4 l o x) → ∀ x ∈ m.foldl (zay l (l.length + 1)) o, zm4 l (m.foldl (zay l (l.length + 1)) o) x := by
  intro m
  induction m with
  | nil => exact fun o h => h
  | cons q m ih =>
    intro o h
    rw [List.foldl_cons]
    refine ih _ fun x hx => ?_
    by_cases hn : x ∈ o
    ·intro r hr p hp hs
     exact zek l _ o q p (h x hn r hr p hp hs)
    ·exact zkb l _ o q (by have := zvs l o; omega) x hx hn
 exact key _ [] (fun x hx => by simp at hx)
theorem zqy {l : List Res} {k : Key} (h : k ∈ zhu l) : k ∈ zc9 l := by
 have key : ∀ (m o : List Key), k ∈ m → k ∈ m.foldl (zay l (l.length + 1)) o := by
  have hs : (getR l k).isSome = true := by
   obtain ⟨r, hr, rfl⟩ := List.mem_map.1 h
   exact mem_keys.1 (List.mem_map.2 ⟨r, (List.mem_filter.1 hr).1, rfl⟩)
  intro m
  induction m with
  | nil => intro o h; simp at h
  | cons q m ih =>
    intro o hm
    rw [List.foldl_cons]
    rcases List.mem_cons.1 hm with e | e
    ·subst e; exact zhg (zek l _) m _ _ (zp8 l _ o _ hs)
    ·exact ih _ e
 exact key _ [] h
theorem qdl {l : List Res} (h : (zmc l).length = 0) {r : Res} (hr : r ∈ l) {q : Key} (hq : q ∈ za2 r) : (getR l q).isSome = true := by
 cases e : (getR l q).isSome with
 | true => rfl
 | false =>
   have : q ∈ zmc l := mem_missR.2 ⟨⟨r, hr, hq⟩, e⟩
   rw [List.eq_nil_of_length_eq_zero h] at this
   simp at this
theorem zd2 {l : List Res} (h : tabE l = 0) {r : Res} (hr : r ∈ l) : zbl r = 0 := by
 have h1 : zb9 l = 0 := by
  unfold tabE at h
  split at h
  ·simp at h
  ·split at h
   ·assumption
   ·exact h
 unfold zb9 at h1
 cases e : l.find? (fun r => !decide (zbl r = 0)) with
 | none =>
   have := List.find?_eq_none.1 e r hr
   simpa using this
 | some x =>
   rw [e] at h1
   have := List.find?_some e
   simp at this; exact absurd h1 this
theorem zqb {l : List Res} (h : tabE l = 0) : (ze3 l).Nodup := by
 unfold tabE at h
 split at h
 ·simp at h
 ·split at h
  ·split at h
   ·simp at h
   ·split at h
    ·assumption
    ·simp at h
  ·rename_i h2; exact absurd h h2
end Go.G
end
