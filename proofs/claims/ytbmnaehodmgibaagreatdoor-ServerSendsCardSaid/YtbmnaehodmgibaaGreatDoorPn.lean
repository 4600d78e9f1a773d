/-
  LAYER 9: histories step by step; what does not hang on versions: plain laws.
-/
import Derived.Test.YtbmnaehodmgibaaGreatDoorPm
set_option linter.unusedSimpArgs false
set_option linter.unusedVariables false
section
namespace Go.G
theorem getR_fold_without : ∀ (g : List Key) (l : List Res) (k : Key), getR (g.foldl withoutR l) k = if k ∈ g then none else getR l k
  | [], l, k => by simp
  | q :: g, l, k => by
    rw [List.foldl_cons, getR_fold_without g, getR_without]
    by_cases h : k ∈ g
    · simp [h]
    · by_cases e : q = k
      · subst e; simp
      · have : ¬ k = q := fun e' => e e'.symm
        simp [h, e, this]
def lastR (l : List Res) (k : Key) : Option Res := l.reverse.find? fun r => decide (r.key = k)
theorem getR_fold_with : ∀ (a l : List Res) (k : Key), getR (a.foldl withR l) k = match lastR a k with | some r => some r | none => getR l k
  | [], l, k => by simp [lastR]
  | m :: a, l, k => by
    rw [List.foldl_cons, getR_fold_with a]
    unfold lastR
    rw [List.reverse_cons, List.find?_append]
    cases h : a.reverse.find? _ with
    | some x => rfl
    | none =>
      simp only [Option.none_or]
      rw [getR_with]
      by_cases e : m.key = k <;> simp [e]
theorem getR_patch_is (l a : List Res) (g : List Key) (k : Key) : getR (patchR l a g) k = match lastR a k with | some r => some r | none => if k ∈ g then none else getR l k := by
  unfold patchR
  rw [getR_fold_with, getR_fold_without]
theorem ascR_filter {l : List Res} (h : AscR l) (p : Res → Bool) : AscR (l.filter p) := by
  unfold AscR Asc at *
  exact h.sublist ((List.filter_sublist).map _)
theorem ascR_with {l : List Res} (h : AscR l) (r : Res) : AscR (withR l r) := by
  have h1 := ascR_filter h fun x => decide (cmpK x.key r.key = -1)
  have h2 := ascR_filter h fun x => decide (cmpK x.key r.key = 1)
  have a1 : ∀ x ∈ (partR l r.key (-1)).map Res.key, cmpK x r.key = -1 := by
    intro x hx
    obtain ⟨a, ha, rfl⟩ := List.mem_map.1 hx
    simpa using (List.mem_filter.1 ha).2
  have a2 : ∀ x ∈ (partR l r.key 1).map Res.key, cmpK r.key x = -1 := by
    intro x hx
    obtain ⟨a, ha, rfl⟩ := List.mem_map.1 hx
    have : cmpK a.key r.key = 1 := by simpa using (List.mem_filter.1 ha).2
    rw [cmpK_swap, this]
  unfold withR AscR Asc
  rw [List.map_append, List.map_append, List.pairwise_append, List.pairwise_append]
  refine ⟨⟨h1, by simp, ?_⟩, h2, ?_⟩
  · intro x hx y hy
    have : y = r.key := by simpa using hy
    rw [this]; exact a1 x hx
  · intro x hx y hy
    rcases List.mem_append.1 hx with h | h
    · exact cmpK_trans (a1 x h) (a2 y hy)
    · have : x = r.key := by simpa using h
      rw [this]; exact a2 y hy
theorem ascR_patch {l : List Res} (h : AscR l) (a : List Res) (g : List Key) : AscR (patchR l a g) := by
  unfold patchR
  have h1 : ∀ (g : List Key) (l : List Res), AscR l → AscR (g.foldl withoutR l) := by
    intro g
    induction g with
    | nil => exact fun _ h => h
    | cons q g ih => exact fun l h => ih _ (ascR_filter h _)
  have h2 : ∀ (a l : List Res), AscR l → AscR (a.foldl withR l) := by
    intro a
    induction a with
    | nil => exact fun _ h => h
    | cons q g ih => exact fun l h => ih _ (ascR_with h _)
  exact h2 _ _ (h1 _ _ h)
theorem ascR_ext {a b : List Res} (ha : AscR a) (hb : AscR b) (h : ∀ k, getR a k = getR b k) : a = b := by
  have hk : a.map Res.key = b.map Res.key := asc_unique ha hb fun k => by rw [mem_keys, mem_keys, h]
  refine List.ext_getElem? fun i => ?_
  have hi := congrArg (fun l => l[i]?) hk
  simp only [List.getElem?_map] at hi
  cases e1 : a[i]? with
  | none =>
    cases e2 : b[i]? with
    | none => rfl
    | some y => simp [e1, e2] at hi
  | some x =>
    cases e2 : b[i]? with
    | none => simp [e1, e2] at hi
    | some y =>
      simp only [e1, e2, Option.map_some, Option.some.injEq] at hi
      have g1 := ascR_get ha (List.mem_of_getElem? e1)
      have g2 := ascR_get hb (List.mem_of_getElem? e2)
      rw [← hi, ← h, g1] at g2
      exact g2
theorem getR_none {l : List Res} {k : Key} : getR l k = none ↔ ∀ r ∈ l, ¬ r.key = k := by
  unfold getR
  rw [List.find?_eq_none]
  simp
theorem lastR_none {l : List Res} {k : Key} : lastR l k = none ↔ ∀ r ∈ l, ¬ r.key = k := by
  unfold lastR
  rw [List.find?_eq_none]
  simp
theorem lastR_some {l : List Res} {k : Key} {r : Res} (h : lastR l k = some r) : r ∈ l ∧ r.key = k := by
  unfold lastR at h
  exact ⟨by simpa using List.mem_of_find?_eq_some h, by simpa using List.find?_some h⟩
theorem lastR_asc {l : List Res} (h : AscR l) (k : Key) : lastR l k = getR l k := by
  cases e : lastR l k with
  | none => exact (getR_none.2 (lastR_none.1 e)).symm
  | some r =>
    obtain ⟨h1, h2⟩ := lastR_some e
    rw [← h2, ascR_get h h1]
theorem mem_diffG {a b : List Res} {k : Key} : k ∈ diffG a b ↔ (getR a k).isSome = true ∧ getR b k = none := by
  unfold diffG
  rw [List.mem_filter, mem_keys]
  cases getR b k <;> simp
theorem patch_diff {a b : List Res} (ha : AscR a) (hb : AscR b) : patchR a (diffA a b) (diffG a b) = b := by
  have hd : AscR (diffA a b) := ascR_filter hb _
  refine ascR_ext (ascR_patch ha _ _) hb fun k => ?_
  rw [getR_patch_is, lastR_asc hd]
  have mem : ∀ r, r ∈ diffA a b ↔ r ∈ b ∧ ¬ getR a r.key = some r := fun r => by simp [diffA, List.mem_filter]
  cases hbk : getR b k with
  | none =>
    have h1 : getR (diffA a b) k = none := getR_none.2 fun r hr => getR_none.1 hbk r ((mem r).1 hr).1
    simp only [h1]
    split
    · rfl
    · rename_i h
      cases h2 : getR a k with
      | none => rfl
      | some x => exact absurd (mem_diffG.2 ⟨by rw [h2]; rfl, hbk⟩) h
  | some r =>
    have hr := getR_mem hbk
    have hk := getR_key hbk
    by_cases h : getR a k = some r
    · have h1 : getR (diffA a b) k = none := getR_none.2 fun x hx e => by
        obtain ⟨q1, q2⟩ := (mem x).1 hx
        have := ascR_get hb q1
        rw [e, hbk] at this; cases this
        rw [e] at q2; exact q2 h
      have h2 : k ∉ diffG a b := fun hm => by have := (mem_diffG.1 hm).2; rw [hbk] at this; cases this
      simp only [h1, if_neg h2, h]
    · have : r ∈ diffA a b := (mem r).2 ⟨hr, by rw [hk]; exact h⟩
      have := ascR_get hd this
      rw [hk] at this
      simp only [this]
/-- One resource, stamped. -/
def stamp1 (now : List Res) (v : Int) (r : Res) : Res := { r with ver := match getR now r.key with
  | some o => if alikeB o r then o.ver else v
  | none => v }
theorem stampR_map (now l : List Res) (v : Int) : stampR now l v = l.map (stamp1 now v) := rfl
theorem stamp1_key (now : List Res) (v : Int) (r : Res) : (stamp1 now v r).key = r.key := rfl
theorem stamp1_idem (now : List Res) (v : Int) (r : Res) : stamp1 now v (stamp1 now v r) = stamp1 now v r := by
  show ({ stamp1 now v r with ver := match getR now r.key with | some o => if alikeB o r then o.ver else v | none => v } : Res) = stamp1 now v r
  rfl
theorem stamp_idem (now l : List Res) (v : Int) : stampR now (stampR now l v) v = stampR now l v := by
  rw [stampR_map, stampR_map, List.map_map]
  exact List.map_congr_left fun r _ => stamp1_idem now v r
theorem stamp1_old {now : List Res} {v : Int} {o r : Res} (h : getR now r.key = some o) (ha : alikeB o r = true) : stamp1 now v r = o := by
  unfold stamp1
  rw [h]
  simp only [ha, if_true]
  exact alike_eq ha
/-- A history, step by step. -/
structure Hist (cap : Int) (h : List (List Res)) : Prop where
  first : h[0]? = some []
  step : ∀ (i : Nat) now l, h[i]? = some now → h[i + 1]? = some l → (∃ p, l = stampR now p ((i : Int) + 1)) ∧ checkE cap (i + 1) now l = 0
theorem Hist.asc {cap : Int} {h : List (List Res)} (hh : Hist cap h) {i : Nat} {l : List Res} (hl : h[i]? = some l) : AscR l := by
  cases i with
  | zero => rw [hh.first] at hl; cases hl; simp
  | succ i =>
    have hi : i < h.length := by have := (List.getElem?_eq_some_iff.1 hl).1; omega
    exact tabE_asc (check_tab (hh.step i h[i] l (List.getElem?_eq_getElem hi) hl).2)
theorem lastS_take {cap : Int} {h : List (List Res)} {i : Nat} {now : List Res} (hn : h[i]? = some now) : lastS ⟨cap, h.take (i + 1)⟩ = now := by
  unfold lastS
  rw [List.getLastD_eq_getLast?, last_take hn]; rfl
theorem hist_go {cap : Int} {h : List (List Res)} (hh : Hist cap h) : ∀ (m i : Nat), i + 1 + m = h.length → saneGo ⟨cap, h.take (i + 1)⟩ (h.drop (i + 1)) = true := by
  intro m
  induction m with
  | zero => intro i hi; rw [List.drop_eq_nil_of_le (by omega)]; rfl
  | succ m ih =>
    intro i hi
    have h0 : i < h.length := by omega
    have h1 : i + 1 < h.length := by omega
    have e0 : h[i]? = some h[i] := List.getElem?_eq_getElem h0
    have e1 : h[i + 1]? = some h[i + 1] := List.getElem?_eq_getElem h1
    have hl : lastS ⟨cap, h.take (i + 1)⟩ = h[i] := lastS_take e0
    obtain ⟨⟨p, hp⟩, hc⟩ := hh.step i _ _ e0 e1
    have hlen : (h.take (i + 1)).length = i + 1 := by simp; omega
    have hN : propN ⟨cap, h.take (i + 1)⟩ (diffA h[i] h[i + 1]) (diffG h[i] h[i + 1]) = h[i + 1] := by
      unfold propN
      rw [hl, patch_diff (hh.asc e0) (hh.asc e1)]
      simp only [hlen]
      have : ((i + 1 : Nat) : Int) = (i : Int) + 1 := by omega
      rw [this, hp, stamp_idem]
    have hE : propE ⟨cap, h.take (i + 1)⟩ (diffA h[i] h[i + 1]) (diffG h[i] h[i + 1]) = 0 := by
      unfold propE
      rw [hN, hl]
      simp only [hlen]
      exact hc
    rw [List.drop_eq_getElem_cons h1]
    simp only [saneGo, hl, hE, hN, decide_true, Bool.true_and]
    have := ih (i + 1) (by omega)
    rwa [List.take_add_one, e1] at this
theorem go_hist {cap : Int} : ∀ (r h : List (List Res)), Hist cap h → saneGo ⟨cap, h⟩ r = true → Hist cap (h ++ r)
  | [], h, hh, _ => by simpa using hh
  | l :: r, h, hh, hs => by
    simp only [saneGo, Bool.and_eq_true, decide_eq_true_eq] at hs
    obtain ⟨⟨h1, h2⟩, h3⟩ := hs
    have h0 : 0 < h.length := (List.getElem?_eq_some_iff.1 hh.first).1
    have hn : Hist cap (h ++ [l]) := by
      refine ⟨by rw [List.getElem?_append_left h0]; exact hh.first, fun i now l' e1 e2 => ?_⟩
      have hi : i + 1 < (h ++ [l]).length := (List.getElem?_eq_some_iff.1 e2).1
      simp only [List.length_append, List.length_cons, List.length_nil] at hi
      rw [List.getElem?_append_left (by omega)] at e1
      by_cases hlt : i + 1 < h.length
      · rw [List.getElem?_append_left hlt] at e2
        exact hh.step i now l' e1 e2
      · have hie : i + 1 = h.length := by omega
        rw [List.getElem?_append_right (by omega), hie] at e2
        simp at e2; subst e2
        have hl : lastS ⟨cap, h⟩ = now := by
          have := lastS_take (cap := cap) e1
          rwa [hie, List.take_length] at this
        have hE := h1
        unfold propE at hE
        rw [h2, hl] at hE
        refine ⟨⟨patchR now (diffA now l) (diffG now l), ?_⟩, by rw [hie]; exact hE⟩
        unfold propN at h2
        rw [hl] at h2
        have : ((h.length : Nat) : Int) = (i : Int) + 1 := by omega
        simp only [this] at h2
        exact h2.symm
    have := go_hist r (h ++ [l]) hn h3
    simpa using this
theorem hist_new (cap : Int) : Hist cap [[]] := ⟨rfl, fun i now l h1 h2 => by simp at h2⟩
theorem sanS_iff (s : Store) : sanS s = true ↔ s.cap = capN s.cap ∧ s.hist.length ≤ 100000 ∧ Hist s.cap s.hist := by
  constructor
  · intro h
    simp only [sanS, Bool.and_eq_true, decide_eq_true_eq] at h
    obtain ⟨⟨⟨⟨h1, h2⟩, h3⟩, h4⟩, h5⟩ := h
    refine ⟨h1, h3, ?_⟩
    cases hh : s.hist with
    | nil => rw [hh] at h2; simp at h2
    | cons a t =>
      rw [hh] at h4 h5
      simp only [List.headD_cons] at h4
      subst h4
      have := go_hist (cap := s.cap) t [[]] (hist_new _) (by
        have e : newS s.cap = ⟨s.cap, [[]]⟩ := by unfold newS; rw [← h1]
        rw [e] at h5; simpa using h5)
      simpa using this
  · rintro ⟨h1, h2, h3⟩
    have h0 : 0 < s.hist.length := (List.getElem?_eq_some_iff.1 h3.first).1
    have hg := hist_go h3 (s.hist.length - 1) 0 (by omega)
    have e : s.hist.take (0 + 1) = [[]] := by
      rw [List.take_add_one, h3.first]; rfl
    rw [e] at hg
    have hd : s.hist.headD [] = [] := by
      have := h3.first
      cases hh : s.hist with
      | nil => rfl
      | cons a t => rw [hh] at this; simpa using this
    have e2 : newS s.cap = ⟨s.cap, [[]]⟩ := by unfold newS; rw [← h1]
    have a1 : 1 ≤ s.hist.length := by omega
    simp only [sanS, decide_eq_true h1, decide_eq_true a1, decide_eq_true h2, decide_eq_true hd, e2, Bool.true_and]
    simpa using hg
theorem lastS_get {s : Store} (h : 0 < s.hist.length) : s.hist[s.hist.length - 1]? = some (lastS s) := by
  unfold lastS
  rw [List.getLastD_eq_getLast?, ← List.getLast?_eq_getElem?]
  cases e : s.hist.getLast? with
  | none => rw [List.getLast?_eq_none_iff] at e; rw [e] at h; simp at h
  | some x => rfl
theorem sane_cap {s : Store} (h : sanS s = true) : s.cap = capN s.cap := ((sanS_iff s).1 h).1
theorem sane_pos {s : Store} (h : sanS s = true) : 0 < s.hist.length := (List.getElem?_eq_some_iff.1 ((sanS_iff s).1 h).2.2.first).1
theorem sane_taken {s : Store} (h : sanS s = true) : takenS s = s := by
  have h0 := sane_pos h
  rw [taken_some (by intro e; rw [e] at h0; simp at h0), ← sane_cap h]
theorem sane_new (n : Int) : sanS (newS n) = true := (sanS_iff _).2 ⟨by simp [newS, capN_idem], by simp [newS], hist_new _⟩
/-- What is accepted. -/
structure Acc (cap : Int) (l : List Res) : Prop where
  tab : tabE l = 0
  len : (l.length : Int) ≤ cap
  miss : (missR l).length = 0
  served : servedE l = 0
theorem check_acc {cap : Int} {n : Nat} {now next : List Res} (h : checkE cap n now next = 0) : Acc cap next ∧ ¬ now = next := by
  have ht := check_tab h
  unfold checkE at h
  rw [if_pos ht] at h
  split at h
  · simp at h
  · rename_i h1
    split at h
    · simp at h
    · rename_i h2
      split at h
      · simp at h
      · rename_i h3
        split at h
        · simp at h
        · rename_i h4
          exact ⟨⟨ht, by omega, by omega, by omega⟩, h4⟩
theorem served_nil : servedE [] = 0 := by decide +kernel
theorem acc_nil {cap : Int} (h : 0 ≤ cap) : Acc cap [] := ⟨by decide +kernel, by simpa using h, by decide +kernel, served_nil⟩
theorem capN_pos (n : Int) : 0 ≤ capN n ∧ capN n ≤ 64 := by unfold capN; omega
theorem Hist.acc {cap : Int} (hc : 0 ≤ cap) {h : List (List Res)} (hh : Hist cap h) {i : Nat} {l : List Res} (hl : h[i]? = some l) : Acc cap l := by
  cases i with
  | zero => rw [hh.first] at hl; cases hl; exact acc_nil hc
  | succ i =>
    have hi : i < h.length := by have := (List.getElem?_eq_some_iff.1 hl).1; omega
    exact (check_acc (hh.step i h[i] l (List.getElem?_eq_getElem hi) hl).2).1
theorem sane_acc {s : Store} (h : sanS s = true) : Acc s.cap (lastS s) := by
  obtain ⟨h1, h2, h3⟩ := (sanS_iff s).1 h
  have h0 := sane_pos h
  exact h3.acc (by have := capN_pos s.cap; omega) (lastS_get h0)
/-- A version is the number that it came with. -/
structure VerAt (h : List (List Res)) (i : Nat) (r : Res) : Prop where
  is : ∃ j m y, r.ver = ((j + 1 : Nat) : Int) ∧ j + 1 ≤ i ∧ h[j + 1]? = some m ∧ getR m r.key = some r ∧ h[j]? = some y ∧ ∀ o, getR y r.key = some o → alikeB o r = false
theorem Hist.ver {cap : Int} {h : List (List Res)} (hh : Hist cap h) : ∀ (i : Nat) (l : List Res), h[i]? = some l → ∀ r ∈ l, VerAt h i r
  | 0, l, hl, r, hr => by rw [hh.first] at hl; cases hl; simp at hr
  | i + 1, l, hl, r, hr => by
    have hi : i < h.length := by have := (List.getElem?_eq_some_iff.1 hl).1; omega
    have e0 : h[i]? = some h[i] := List.getElem?_eq_getElem hi
    obtain ⟨⟨p, hp⟩, hc⟩ := hh.step i _ _ e0 hl
    have hasc := hh.asc hl
    have hg := ascR_get hasc hr
    rw [hp, stampR_map] at hr
    obtain ⟨q, hq, rfl⟩ := List.mem_map.1 hr
    by_cases hold : ∃ o, getR h[i] q.key = some o ∧ alikeB o q = true
    · obtain ⟨o, ho, ha⟩ := hold
      rw [stamp1_old ho ha]
      obtain ⟨j, m, y, h1, h2, h3⟩ := (hh.ver i _ e0 o (getR_mem ho)).is
      exact ⟨j, m, y, h1, by omega, h3⟩
    · have hv : (stamp1 h[i] ((i : Int) + 1) q).ver = (i : Int) + 1 := by
        unfold stamp1
        cases ho : getR h[i] q.key with
        | none => rfl
        | some o =>
          have : ¬ alikeB o q = true := fun ha => hold ⟨o, ho, ha⟩
          simp [this]
      refine ⟨i, l, h[i], by rw [hv]; omega, Nat.le_refl _, hl, hg, e0, fun o ho => ?_⟩
      rw [stamp1_key] at ho
      cases ha : alikeB o q with
      | false => exact ha
      | true => exact absurd ⟨o, ho, ha⟩ hold
end Go.G
end
section
namespace Go.G
end Go.G
end
section
namespace Go.G
theorem tab_all {l : List Res} (h : tabE l = 0) {r : Res} (hr : r ∈ l) : saneE r = 0 := by
  have h1 : firstE l = 0 := by
    unfold tabE at h
    split at h
    · simp at h
    · split at h
      · assumption
      · exact h
  unfold firstE at h1
  cases e : l.find? (fun r => !decide (saneE r = 0)) with
  | none =>
    have := List.find?_eq_none.1 e r hr
    simpa using this
  | some x =>
    rw [e] at h1
    have := List.find?_some e
    simp at this; exact absurd h1 this
end Go.G
end
