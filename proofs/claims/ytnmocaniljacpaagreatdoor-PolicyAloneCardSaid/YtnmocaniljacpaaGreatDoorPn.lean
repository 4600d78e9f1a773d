/-
  LAYER 9: histories step by step; what does not hang on versions: plain laws.
-/
import Derived.Test.YtnmocaniljacpaaGreatDoorPm
set_option linter.unusedSimpArgs false
set_option linter.unusedVariables false
section
namespace Go.G
theorem getR_fold_without : ∀ (g : List Key) (l : List Res) (k : Key), getR (g.foldl withoutR l) k = if k ∈ g then none else getR l k
  | [], l, k => by simp
  | q :: g, l, k => by
    rw [List.foldl_cons, getR_fold_without g, getR_without]
    by_cases h : k ∈ g
    · simp [h]
    · by_cases e : q = k
      · subst e; simp
      · have : ¬ k = q := fun e' => e e'.symm
        simp [h, e, this]
def lastR (l : List Res) (k : Key) : Option Res := l.reverse.find? fun r => decide (r.key = k)
theorem getR_fold_with : ∀ (a l : List Res) (k : Key), getR (a.foldl withR l) k = match lastR a k with | some r => some r | none => getR l k
  | [], l, k => by simp [lastR]
  | m :: a, l, k => by
    rw [List.foldl_cons, getR_fold_with a]
    unfold lastR
    rw [List.reverse_cons, List.find?_append]
    cases h : a.reverse.find? _ with
    | some x => rfl
    | none =>
      simp only [Option.none_or]
      rw [getR_with]
      by_cases e : m.key = k <;> simp [e]
theorem getR_patch_is (l a : List Res) (g : List Key) (k : Key) : getR (patchR l a g) k = match lastR a k with | some r => some r | none => if k ∈ g then none else getR l k := by
  unfold patchR
  rw [getR_fold_with, getR_fold_without]
theorem ascR_filter {l : List Res} (h : AscR l) (p : Res → Bool) : AscR (l.filter p) := by
  unfold AscR Asc at *
  exact h.sublist ((List.filter_sublist).map _)
theorem ascR_with {l : List Res} (h : AscR l) (r : Res) : AscR (withR l r) := by
  have h1 := ascR_filter h fun x => decide (cmpK x.key r.key = -1)
  have h2 := ascR_filter h fun x => decide (cmpK x.key r.key = 1)
  have a1 : ∀ x ∈ (partR l r.key (-1)).map Res.key, cmpK x r.key = -1 := by
    intro x hx
    obtain ⟨a, ha, rfl⟩ := List.mem_map.1 hx
    simpa using (List.mem_filter.1 ha).2
  have a2 : ∀ x ∈ (partR l r.key 1).map Res.key, cmpK r.key x = -1 := by
    intro x hx
    obtain ⟨a, ha, rfl⟩ := List.mem_map.1 hx
    have : cmpK a.key r.key = 1 := by simpa using (List.mem_filter.1 ha).2
    rw [cmpK_swap, this]
  unfold withR AscR Asc
  rw [List.map_append, List.map_append, List.pairwise_append, List.pairwise_append]
  refine ⟨⟨h1, by simp, ?_⟩, h2, ?_⟩
  · intro x hx y hy
    have : y = r.key := by simpa using hy
    rw [this]; exact a1 x hx
  · intro x hx y hy
    rcases List.mem_append.1 hx with h | h
    · exact cmpK_trans (a1 x h) (a2 y hy)
    · have : x = r.key := by simpa using h
      rw [this]; exact a2 y hy
theorem ascR_patch {l : List Res} (h : AscR l) (a : List Res) (g : List Key) : AscR (patchR l a g) := by
  unfold patchR
  have h1 : ∀ (g : List Key) (l : List Res), AscR l → AscR (g.foldl withoutR l) := by
    intro g
    induction g with
    | nil => exact fun _ h => h
    | cons q g ih => exact fun l h => ih _ (ascR_filter h _)
  have h2 : ∀ (a l : List Res), AscR l → AscR (a.foldl withR l) := by
    intro a
    induction a with
    | nil => exact fun _ h => h
    | cons q g ih => exact fun l h => ih _ (ascR_with h _)
  exact h2 _ _ (h1 _ _ h)
theorem ascR_ext {a b : List Res} (ha : AscR a) (hb : AscR b) (h : ∀ k, getR a k = getR b k) : a = b := by
  have hk : a.map Res.key = b.map Res.key := asc_unique ha hb fun k => by rw [mem_keys, mem_keys, h]
  refine List.ext_getElem? fun i => ?_
  have hi := congrArg (fun l => l[i]?) hk
  simp only [List.getElem?_map] at hi
  cases e1 : a[i]? with
  | none =>
    cases e2 : b[i]? with
    | none => rfl
    | some y => simp [e1, e2] at hi
  | some x =>
    cases e2 : b[i]? with
    | none => simp [e1, e2] at hi
    | some y =>
      simp only [e1, e2, Option.map_some, Option.some.injEq] at hi
      have g1 := ascR_get ha (List.mem_of_getElem? e1)
      have g2 := ascR_get hb (List.mem_of_getElem? e2)
      rw [← hi, ← h, g1] at g2
      exact g2
theorem getR_none {l : List Res} {k : Key} : getR l k = none ↔ ∀ r ∈ l, ¬ r.key = k := by
  unfold getR
  rw [List.find?_eq_none]
  simp
theorem lastR_none {l : List Res} {k : Key} : lastR l k = none ↔ ∀ r ∈ l, ¬ r.key = k := by
  unfold lastR
  rw [List.find?_eq_none]
  simp
theorem lastR_some {l : List Res} {k : Key} {r : Res} (h : lastR l k = some r) : r ∈ l ∧ r.key = k := by
  unfold lastR at h
  exact ⟨by simpa using List.mem_of_find?_eq_some h, by simpa using List.find?_some h⟩
theorem lastR_asc {l : List Res} (h : AscR l) (k : Key) : lastR l k = getR l k := by
  cases e : lastR l k with
  | none => exact (getR_none.2 (lastR_none.1 e)).symm
  | some r =>
    obtain ⟨h1, h2⟩ := lastR_some e
    rw [← h2, ascR_get h h1]
theorem mem_diffG {a b : List Res} {k : Key} : k ∈ diffG a b ↔ (getR a k).isSome = true ∧ getR b k = none := by
  unfold diffG
  rw [List.mem_filter, mem_keys]
  cases getR b k <;> simp
theorem patch_diff {a b : List Res} (ha : AscR a) (hb : AscR b) : patchR a (diffA a b) (diffG a b) = b := by
  have hd : AscR (diffA a b) := ascR_filter hb _
  refine ascR_ext (ascR_patch ha _ _) hb fun k => ?_
  rw [getR_patch_is, lastR_asc hd]
  have mem : ∀ r, r ∈ diffA a b ↔ r ∈ b ∧ ¬ getR a r.key = some r := fun r => by simp [diffA, List.mem_filter]
  cases hbk : getR b k with
  | none =>
    have h1 : getR (diffA a b) k = none := getR_none.2 fun r hr => getR_none.1 hbk r ((mem r).1 hr).1
    simp only [h1]
    split
    · rfl
    · rename_i h
      cases h2 : getR a k with
      | none => rfl
      | some x => exact absurd (mem_diffG.2 ⟨by rw [h2]; rfl, hbk⟩) h
  | some r =>
    have hr := getR_mem hbk
    have hk := getR_key hbk
    by_cases h : getR a k = some r
    · have h1 : getR (diffA a b) k = none := getR_none.2 fun x hx e => by
        obtain ⟨q1, q2⟩ := (mem x).1 hx
        have := ascR_get hb q1
        rw [e, hbk] at this; cases this
        rw [e] at q2; exact q2 h
      have h2 : k ∉ diffG a b := fun hm => by have := (mem_diffG.1 hm).2; rw [hbk] at this; cases this
      simp only [h1, if_neg h2, h]
    · have : r ∈ diffA a b := (mem r).2 ⟨hr, by rw [hk]; exact h⟩
      have := ascR_get hd this
      rw [hk] at this
      simp only [this]
/-- One resource, stamped. -/
def stamp1 (now : List Res) (v : Int) (r : Res) : Res := { r with ver := match getR now r.key with
  | some o => if alikeB o r then o.ver else v
  | none => v }
theorem stampR_map (now l : List Res) (v : Int) : stampR now l v = l.map (stamp1 now v) := rfl
theorem stamp1_key (now : List Res) (v : Int) (r : Res) : (stamp1 now v r).key = r.key := rfl
theorem getR_map {f : Res → Res} (hf : ∀ r, (f r).key = r.key) (l : List Res) (k : Key) : getR (l.map f) k = (getR l k).map f := by
  induction l with
  | nil => rfl
  | cons a l ih =>
    rw [List.map_cons, getR_cons', getR_cons', hf, ih]
    split <;> simp
theorem alike_ver (o r : Res) (x : Int) : alikeB o { r with ver := x } = alikeB o r := rfl
theorem stamp1_idem (now : List Res) (v : Int) (r : Res) : stamp1 now v (stamp1 now v r) = stamp1 now v r := by
  show ({ stamp1 now v r with ver := match getR now r.key with | some o => if alikeB o r then o.ver else v | none => v } : Res) = stamp1 now v r
  rfl
theorem stamp_idem (now l : List Res) (v : Int) : stampR now (stampR now l v) v = stampR now l v := by
  rw [stampR_map, stampR_map, List.map_map]
  exact List.map_congr_left fun r _ => stamp1_idem now v r
theorem stamp1_old {now : List Res} {v : Int} {o r : Res} (h : getR now r.key = some o) (ha : alikeB o r = true) : stamp1 now v r = o := by
  unfold stamp1
  rw [h]
  simp only [ha, if_true]
  exact alike_eq ha
/-- A history, step by step. -/
structure Hist (cap : Int) (h : List (List Res)) : Prop where
  first : h[0]? = some []
  step : ∀ (i : Nat) now l, h[i]? = some now → h[i + 1]? = some l → (∃ p, l = stampR now p ((i : Int) + 1)) ∧ checkE cap (i + 1) now l = 0
theorem Hist.asc {cap : Int} {h : List (List Res)} (hh : Hist cap h) {i : Nat} {l : List Res} (hl : h[i]? = some l) : AscR l := by
  cases i with
  | zero => rw [hh.first] at hl; cases hl; simp
  | succ i =>
    have hi : i < h.length := by have := (List.getElem?_eq_some_iff.1 hl).1; omega
    exact tabE_asc (check_tab (hh.step i h[i] l (List.getElem?_eq_getElem hi) hl).2)
theorem lastS_take {cap : Int} {h : List (List Res)} {i : Nat} {now : List Res} (hn : h[i]? = some now) : lastS ⟨cap, h.take (i + 1)⟩ = now := by
  unfold lastS
  rw [List.getLastD_eq_getLast?, last_take hn]; rfl
theorem hist_go {cap : Int} {h : List (List Res)} (hh : Hist cap h) : ∀ (m i : Nat), i + 1 + m = h.length → saneGo ⟨cap, h.take (i + 1)⟩ (h.drop (i + 1)) = true := by
  intro m
  induction m with
  | zero => intro i hi; rw [List.drop_eq_nil_of_le (by omega)]; rfl
  | succ m ih =>
    intro i hi
    have h0 : i < h.length := by omega
    have h1 : i + 1 < h.length := by omega
    have e0 : h[i]? = some h[i] := List.getElem?_eq_getElem h0
    have e1 : h[i + 1]? = some h[i + 1] := List.getElem?_eq_getElem h1
    have hl : lastS ⟨cap, h.take (i + 1)⟩ = h[i] := lastS_take e0
    obtain ⟨⟨p, hp⟩, hc⟩ := hh.step i _ _ e0 e1
    have hlen : (h.take (i + 1)).length = i + 1 := by simp; omega
    have hN : propN ⟨cap, h.take (i + 1)⟩ (diffA h[i] h[i + 1]) (diffG h[i] h[i + 1]) = h[i + 1] := by
      unfold propN
      rw [hl, patch_diff (hh.asc e0) (hh.asc e1)]
      simp only [hlen]
      have : ((i + 1 : Nat) : Int) = (i : Int) + 1 := by omega
      rw [this, hp, stamp_idem]
    have hE : propE ⟨cap, h.take (i + 1)⟩ (diffA h[i] h[i + 1]) (diffG h[i] h[i + 1]) = 0 := by
      unfold propE
      rw [hN, hl]
      simp only [hlen]
      exact hc
    rw [List.drop_eq_getElem_cons h1]
    simp only [saneGo, hl, hE, hN, decide_true, Bool.true_and]
    have := ih (i + 1) (by omega)
    rwa [List.take_add_one, e1] at this
theorem go_hist {cap : Int} : ∀ (r h : List (List Res)), Hist cap h → saneGo ⟨cap, h⟩ r = true → Hist cap (h ++ r)
  | [], h, hh, _ => by simpa using hh
  | l :: r, h, hh, hs => by
    simp only [saneGo, Bool.and_eq_true, decide_eq_true_eq] at hs
    obtain ⟨⟨h1, h2⟩, h3⟩ := hs
    have h0 : 0 < h.length := (List.getElem?_eq_some_iff.1 hh.first).1
    have hn : Hist cap (h ++ [l]) := by
      refine ⟨by rw [List.getElem?_append_left h0]; exact hh.first, fun i now l' e1 e2 => ?_⟩
      have hi : i + 1 < (h ++ [l]).length := (List.getElem?_eq_some_iff.1 e2).1
      simp only [List.length_append, List.length_cons, List.length_nil] at hi
      rw [List.getElem?_append_left (by omega)] at e1
      by_cases hlt : i + 1 < h.length
      · rw [List.getElem?_append_left hlt] at e2
        exact hh.step i now l' e1 e2
      · have hie : i + 1 = h.length := by omega
        rw [List.getElem?_append_right (by omega), hie] at e2
        simp at e2; subst e2
        have hl : lastS ⟨cap, h⟩ = now := by
          have := lastS_take (cap := cap) e1
          rwa [hie, List.take_length] at this
        have hE := h1
        unfold propE at hE
        rw [h2, hl] at hE
        refine ⟨⟨patchR now (diffA now l) (diffG now l), ?_⟩, by rw [hie]; exact hE⟩
        unfold propN at h2
        rw [hl] at h2
        have : ((h.length : Nat) : Int) = (i : Int) + 1 := by omega
        simp only [this] at h2
        exact h2.symm
    have := go_hist r (h ++ [l]) hn h3
    simpa using this
theorem hist_new (cap : Int) : Hist cap [[]] := ⟨rfl, fun i now l h1 h2 => by simp at h2⟩
theorem sanS_iff (s : Store) : sanS s = true ↔ s.cap = capN s.cap ∧ s.hist.length ≤ 100000 ∧ Hist s.cap s.hist := by
  constructor
  · intro h
    simp only [sanS, Bool.and_eq_true, decide_eq_true_eq] at h
    obtain ⟨⟨⟨⟨h1, h2⟩, h3⟩, h4⟩, h5⟩ := h
    refine ⟨h1, h3, ?_⟩
    cases hh : s.hist with
    | nil => rw [hh] at h2; simp at h2
    | cons a t =>
      rw [hh] at h4 h5
      simp only [List.headD_cons] at h4
      subst h4
      have := go_hist (cap := s.cap) t [[]] (hist_new _) (by
        have e : newS s.cap = ⟨s.cap, [[]]⟩ := by unfold newS; rw [← h1]
        rw [e] at h5; simpa using h5)
      simpa using this
  · rintro ⟨h1, h2, h3⟩
    have h0 : 0 < s.hist.length := (List.getElem?_eq_some_iff.1 h3.first).1
    have hg := hist_go h3 (s.hist.length - 1) 0 (by omega)
    have e : s.hist.take (0 + 1) = [[]] := by
      rw [List.take_add_one, h3.first]; rfl
    rw [e] at hg
    have hd : s.hist.headD [] = [] := by
      have := h3.first
      cases hh : s.hist with
      | nil => rfl
      | cons a t => rw [hh] at this; simpa using this
    have e2 : newS s.cap = ⟨s.cap, [[]]⟩ := by unfold newS; rw [← h1]
    have a1 : 1 ≤ s.hist.length := by omega
    simp only [sanS, decide_eq_true h1, decide_eq_true a1, decide_eq_true h2, decide_eq_true hd, e2, Bool.true_and]
    simpa using hg
theorem Hist.snoc {cap : Int} {h : List (List Res)} (hh : Hist cap h) {p : List Res} {now : List Res} (hn : h[h.length - 1]? = some now) (hc : checkE cap h.length now (stampR now p h.length) = 0) : Hist cap (h ++ [stampR now p h.length]) := by
  have h0 : 0 < h.length := (List.getElem?_eq_some_iff.1 hh.first).1
  refine ⟨by rw [List.getElem?_append_left h0]; exact hh.first, fun i now' l' e1 e2 => ?_⟩
  have hi : i + 1 < (h ++ [stampR now p h.length]).length := (List.getElem?_eq_some_iff.1 e2).1
  simp only [List.length_append, List.length_cons, List.length_nil] at hi
  rw [List.getElem?_append_left (by omega)] at e1
  by_cases hlt : i + 1 < h.length
  · rw [List.getElem?_append_left hlt] at e2
    exact hh.step i now' l' e1 e2
  · have hie : i + 1 = h.length := by omega
    rw [List.getElem?_append_right (by omega), hie] at e2
    simp at e2; subst e2
    have : i = h.length - 1 := by omega
    rw [this, hn] at e1; cases e1
    have e3 : ((h.length : Nat) : Int) = (i : Int) + 1 := by omega
    exact ⟨⟨p, by rw [← e3]⟩, by rw [hie]; exact hc⟩
theorem lastS_get {s : Store} (h : 0 < s.hist.length) : s.hist[s.hist.length - 1]? = some (lastS s) := by
  unfold lastS
  rw [List.getLastD_eq_getLast?, ← List.getLast?_eq_getElem?]
  cases e : s.hist.getLast? with
  | none => rw [List.getLast?_eq_none_iff] at e; rw [e] at h; simp at h
  | some x => rfl
theorem check_n {cap : Int} {n : Nat} {now next : List Res} (h : checkE cap n now next = 0) : n < 100000 := by
  unfold checkE at h
  repeat' (split at h <;> first | (simp at h; done) | skip)
  all_goals first | omega | (rename_i h1; exact absurd h h1) | skip
theorem sane_prop {s : Store} (h : sanS s = true) (adds : List Res) (gone : List Key) : sanS (propS s adds gone) = true := by
  unfold propS
  split
  · rename_i he
    obtain ⟨h1, h2, h3⟩ := (sanS_iff s).1 h
    have h0 : 0 < s.hist.length := (List.getElem?_eq_some_iff.1 h3.first).1
    have hn := check_n he
    exact (sanS_iff _).2 ⟨h1, by simp; omega, h3.snoc (lastS_get h0) he⟩
  · exact h
theorem sane_cap {s : Store} (h : sanS s = true) : s.cap = capN s.cap := ((sanS_iff s).1 h).1
theorem sane_pos {s : Store} (h : sanS s = true) : 0 < s.hist.length := (List.getElem?_eq_some_iff.1 ((sanS_iff s).1 h).2.2.first).1
theorem sane_taken {s : Store} (h : sanS s = true) : takenS s = s := by
  have h0 := sane_pos h
  rw [taken_some (by intro e; rw [e] at h0; simp at h0), ← sane_cap h]
theorem sane_new (n : Int) : sanS (newS n) = true := (sanS_iff _).2 ⟨by simp [newS, capN_idem], by simp [newS], hist_new _⟩
/-- What is accepted. -/
structure Acc (cap : Int) (l : List Res) : Prop where
  tab : tabE l = 0
  len : (l.length : Int) ≤ cap
  miss : (missR l).length = 0
  served : servedE l = 0
theorem check_acc {cap : Int} {n : Nat} {now next : List Res} (h : checkE cap n now next = 0) : Acc cap next ∧ ¬ now = next := by
  have ht := check_tab h
  unfold checkE at h
  rw [if_pos ht] at h
  split at h
  · simp at h
  · rename_i h1
    split at h
    · simp at h
    · rename_i h2
      split at h
      · simp at h
      · rename_i h3
        split at h
        · simp at h
        · rename_i h4
          exact ⟨⟨ht, by omega, by omega, by omega⟩, h4⟩
theorem served_nil : servedE [] = 0 := by decide +kernel
theorem acc_nil {cap : Int} (h : 0 ≤ cap) : Acc cap [] := ⟨by decide +kernel, by simpa using h, by decide +kernel, served_nil⟩
theorem capN_pos (n : Int) : 0 ≤ capN n ∧ capN n ≤ 64 := by unfold capN; omega
theorem Hist.acc {cap : Int} (hc : 0 ≤ cap) {h : List (List Res)} (hh : Hist cap h) {i : Nat} {l : List Res} (hl : h[i]? = some l) : Acc cap l := by
  cases i with
  | zero => rw [hh.first] at hl; cases hl; exact acc_nil hc
  | succ i =>
    have hi : i < h.length := by have := (List.getElem?_eq_some_iff.1 hl).1; omega
    exact (check_acc (hh.step i h[i] l (List.getElem?_eq_getElem hi) hl).2).1
theorem sane_acc {s : Store} (h : sanS s = true) : Acc s.cap (lastS s) := by
  obtain ⟨h1, h2, h3⟩ := (sanS_iff s).1 h
  have h0 := sane_pos h
  exact h3.acc (by have := capN_pos s.cap; omega) (lastS_get h0)
/-- A version is the number that it came with. -/
structure VerAt (h : List (List Res)) (i : Nat) (r : Res) : Prop where
  is : ∃ j m y, r.ver = ((j + 1 : Nat) : Int) ∧ j + 1 ≤ i ∧ h[j + 1]? = some m ∧ getR m r.key = some r ∧ h[j]? = some y ∧ ∀ o, getR y r.key = some o → alikeB o r = false
theorem Hist.ver {cap : Int} {h : List (List Res)} (hh : Hist cap h) : ∀ (i : Nat) (l : List Res), h[i]? = some l → ∀ r ∈ l, VerAt h i r
  | 0, l, hl, r, hr => by rw [hh.first] at hl; cases hl; simp at hr
  | i + 1, l, hl, r, hr => by
    have hi : i < h.length := by have := (List.getElem?_eq_some_iff.1 hl).1; omega
    have e0 : h[i]? = some h[i] := List.getElem?_eq_getElem hi
    obtain ⟨⟨p, hp⟩, hc⟩ := hh.step i _ _ e0 hl
    have hasc := hh.asc hl
    have hg := ascR_get hasc hr
    rw [hp, stampR_map] at hr
    obtain ⟨q, hq, rfl⟩ := List.mem_map.1 hr
    by_cases hold : ∃ o, getR h[i] q.key = some o ∧ alikeB o q = true
    · obtain ⟨o, ho, ha⟩ := hold
      rw [stamp1_old ho ha]
      obtain ⟨j, m, y, h1, h2, h3⟩ := (hh.ver i _ e0 o (getR_mem ho)).is
      exact ⟨j, m, y, h1, by omega, h3⟩
    · have hv : (stamp1 h[i] ((i : Int) + 1) q).ver = (i : Int) + 1 := by
        unfold stamp1
        cases ho : getR h[i] q.key with
        | none => rfl
        | some o =>
          have : ¬ alikeB o q = true := fun ha => hold ⟨o, ho, ha⟩
          simp [this]
      refine ⟨i, l, h[i], by rw [hv]; omega, Nat.le_refl _, hl, hg, e0, fun o ho => ?_⟩
      rw [stamp1_key] at ho
      cases ha : alikeB o q with
      | false => exact ha
      | true => exact absurd ⟨o, ho, ha⟩ hold
end Go.G
end
section
namespace Go.G
def bare (r : Res) : Res := { r with ver := 0 }
abbrev bareL (l : List Res) : List Res := l.map bare
@[simp] theorem bare_key (r : Res) : (bare r).key = r.key := rfl
theorem alike_bare (a b : Res) : alikeB a b = true ↔ bare a = bare b := by
  constructor
  · intro h
    have := alike_eq h
    rw [← this]; rfl
  · intro h
    simp only [bare, Res.mk.injEq] at h
    obtain ⟨h1, h2, _, h3, h4, h5, h6⟩ := h
    simp [alikeB, h1, h2, h3, h4, h5, h6]
theorem bare_stamp1 (now : List Res) (v : Int) (r : Res) : bare (stamp1 now v r) = bare r := rfl
theorem bare_stamp (now l : List Res) (v : Int) : bareL (stampR now l v) = bareL l := by
  rw [stampR_map]; unfold bareL; rw [List.map_map]; rfl
theorem bare_with (l : List Res) (r : Res) : bareL (withR l r) = withR (bareL l) (bare r) := by
  simp only [bareL, withR, partR, List.map_append, List.map_cons, List.map_nil, List.filter_map, bare_key]
  rfl
theorem bare_without (l : List Res) (k : Key) : bareL (withoutR l k) = withoutR (bareL l) k := by
  simp only [bareL, withoutR, List.filter_map]
  rfl
theorem bare_patch (l a : List Res) (g : List Key) : bareL (patchR l a g) = patchR (bareL l) (bareL a) g := by
  unfold patchR
  have h1 : ∀ (g : List Key) (l : List Res), bareL (g.foldl withoutR l) = g.foldl withoutR (bareL l) := by
    intro g
    induction g with
    | nil => exact fun _ => rfl
    | cons q g ih => intro l; rw [List.foldl_cons, List.foldl_cons, ih, bare_without]
  have h2 : ∀ (a l : List Res), bareL (a.foldl withR l) = (bareL a).foldl withR (bareL l) := by
    intro a
    induction a with
    | nil => exact fun _ => rfl
    | cons q g ih => intro l; rw [List.foldl_cons, ih, bare_with]; rfl
  rw [h2, h1]
/-- A version that may be. -/
def VerOk (l : List Res) : Prop := ∀ r ∈ l, rngB r.ver 2147483647 = true
theorem sane_bare {r : Res} (h : rngB r.ver 2147483647 = true) : saneE (bare r) = saneE r := by
  have : smallB (bare r) = smallB r := by
    unfold smallB
    rw [h]; rfl
  unfold saneE
  rw [this]; rfl
theorem refs_bare {r : Res} (h : rngB r.ver 2147483647 = true) : refsK (bare r) = refsK r := by
  unfold refsK
  rw [sane_bare h]; rfl
theorem first_bare {l : List Res} (h : VerOk l) : firstE (bareL l) = firstE l := by
  induction l with
  | nil => rfl
  | cons a l ih =>
    have ha := sane_bare (h a (by simp))
    have ih := ih fun r hr => h r (by simp [hr])
    unfold firstE at *
    rw [bareL, List.map_cons, List.find?_cons, List.find?_cons, ha]
    cases (!decide (saneE a = 0)) with
    | true => exact ha
    | false => exact ih
theorem asc_bare : ∀ (l : List Res), ascB (bareL l) = ascB l
  | [] => rfl
  | [_] => rfl
  | a :: b :: l => by
    have ih := asc_bare (b :: l)
    simp only [bareL, List.map_cons, ascB, bare_key] at *
    rw [ih]; rfl
theorem ports_bare (l : List Res) : portsR (bareL l) = portsR l := by
  simp only [portsR, bareL, List.filter_map, List.map_map]
  rfl
theorem tab_bare {l : List Res} (h : VerOk l) : tabE (bareL l) = tabE l := by
  unfold tabE
  rw [first_bare h, asc_bare, ports_bare, bareL, List.length_map]
theorem get_bare (l : List Res) (k : Key) : getR (bareL l) k = (getR l k).map bare := getR_map (f := bare) (fun _ => rfl) l k
theorem noR_bare (l : List Res) : noR (bareL l) = noR l := by
  funext k
  unfold noR
  rw [get_bare]; cases getR l k <;> rfl
theorem flat_bare {l : List Res} (h : VerOk l) : (bareL l).flatMap refsK = l.flatMap refsK := by
  induction l with
  | nil => rfl
  | cons a l ih =>
    rw [bareL, List.map_cons, List.flatMap_cons, List.flatMap_cons, refs_bare (h a (by simp))]
    rw [← bareL, ih fun r hr => h r (by simp [hr])]
theorem miss_bare {l : List Res} (h : VerOk l) : missR (bareL l) = missR l := by
  unfold missR missP
  rw [flat_bare h, noR_bare]
theorem roots_bare (l : List Res) : rootsR (bareL l) = rootsR l := by
  simp only [rootsR, bareL, List.filter_map, List.map_map]
  rfl
theorem served_bare_any {l m : List Res} (h : VerOk m) : ((bareL m).any fun r => (refsK r).any (noR (bareL l))) = m.any fun r => (refsK r).any (noR l) := by
  rw [noR_bare]
  induction m with
  | nil => rfl
  | cons a m ih =>
    rw [bareL, List.map_cons, List.any_cons, List.any_cons, refs_bare (h a (by simp))]
    rw [← bareL, ih fun r hr => h r (by simp [hr])]
theorem visit_bare {l : List Res} (h : VerOk l) : ∀ (n : Nat) (out : List Key) (k : Key), visitF (bareL l) n out k = visitF l n out k
  | 0, _, _ => rfl
  | n + 1, out, k => by
    unfold visitF
    rw [get_bare]
    cases e : getR l k with
    | none => rfl
    | some r =>
      simp only [Option.map_some]
      rw [refs_bare (h r (getR_mem e))]
      have : visitF (bareL l) n = visitF l n := by funext o q; exact visit_bare h n o q
      rw [this]
theorem reached_bare {l : List Res} (h : VerOk l) : reachedL (bareL l) = reachedL l := by
  unfold reachedL
  rw [roots_bare]
  have : visitF (bareL l) ((bareL l).length + 1) = visitF l (l.length + 1) := by
    funext o q; rw [visit_bare h, bareL, List.length_map]
  rw [this]
theorem reach_bare {l : List Res} (h : VerOk l) : reachR (bareL l) = bareL (reachR l) := by
  unfold reachR
  rw [reached_bare h]
  simp only [bareL, List.filter_map]
  rfl
theorem served_bare {l : List Res} (h : VerOk l) : servedE (bareL l) = servedE l := by
  have hm : VerOk (reachR l) := fun r hr => h r (List.mem_filter.1 hr).1
  unfold servedE
  rw [reach_bare h, served_bare_any hm]
  have : (bareL (reachR l)).any endless = (reachR l).any endless := by
    simp only [bareL, List.any_map]; rfl
  rw [this]
/-- What is wrong with a next configuration, whatever the versions. -/
def checkB (cap : Int) (now next : List Res) : Int :=
  if tabE next = 0 then (if cap < next.length then 8 else if ¬ (missR next).length = 0 then 6 else if ¬ servedE next = 0 then 7 else if now = next then 9 else 0) else tabE next
theorem now_bare {now p : List Res} {v : Int} (ha : AscR now) : now = stampR now p v ↔ bareL now = bareL (stampR now p v) := by
  constructor
  · intro h; rw [← h]
  · intro h
    have hl : now.length = p.length := by
      have := congrArg List.length h
      simpa [bareL, stampR] using this
    refine List.ext_getElem? fun i => ?_
    by_cases hi : i < now.length
    · have hi' : i < p.length := by omega
      have e1 : now[i]? = some now[i] := List.getElem?_eq_getElem hi
      have e2 : p[i]? = some p[i] := List.getElem?_eq_getElem hi'
      have h1 := congrArg (fun l => l[i]?) h
      simp only [bareL, stampR_map, List.getElem?_map, e1, e2, Option.map_some, bare_stamp1] at h1
      replace h1 : bare now[i] = bare p[i] := Option.some.inj h1
      rw [stampR_map, List.getElem?_map, e1, e2, Option.map_some]
      have hk := congrArg Res.key h1
      simp only [bare_key] at hk
      have hg := ascR_get ha (List.mem_of_getElem? e1)
      rw [hk] at hg
      rw [stamp1_old hg ((alike_bare _ _).2 h1)]
    · have hi' : p.length ≤ i := by omega
      rw [List.getElem?_eq_none (by omega), List.getElem?_eq_none (by simpa [stampR] using hi')]
theorem stamp_ver {now p : List Res} {v : Int} (hv : rngB v 2147483647 = true) (hn : VerOk now) : VerOk (stampR now p v) := by
  intro r hr
  rcases mem_stamp hr with h | h
  · rw [h]; exact hv
  · exact hn r h
theorem check_bare {cap : Int} {n : Nat} {now p : List Res} {v : Int} (ha : AscR now) (hn : VerOk now) (hv : rngB v 2147483647 = true) (hl : n < 100000) :
    checkE cap n now (stampR now p v) = checkB cap (bareL now) (bareL p) := by
  have hs := stamp_ver (p := p) hv hn
  have e := bare_stamp now p v
  unfold checkE checkB
  rw [← e, tab_bare hs, miss_bare hs, served_bare hs]
  simp only [List.length_map]
  by_cases h1 : now = stampR now p v
  · have h2 := (now_bare ha).1 h1
    rw [if_neg (show ¬ 100000 ≤ n by omega)]
    simp only [if_pos h1, if_pos h2]
  · have h2 : ¬ bareL now = bareL (stampR now p v) := fun h => h1 ((now_bare ha).2 h)
    rw [if_neg (show ¬ 100000 ≤ n by omega)]
    simp only [if_neg h1, if_neg h2]
theorem Hist.verOk {cap : Int} {h : List (List Res)} (hh : Hist cap h) (hl : h.length ≤ 100000) {i : Nat} {l : List Res} (hi : h[i]? = some l) : VerOk l := by
  intro r hr
  obtain ⟨j, m, y, h1, h2, h3, _⟩ := (hh.ver i l hi r hr).is
  have := (List.getElem?_eq_some_iff.1 h3).1
  rw [h1]
  simp [rngB]; omega
/-- The proposal of all that is there, into nothing. -/
def oneS (s : Store) : Store := propS (newS s.cap) (lastS s) []
theorem patch_into {l : List Res} (h : AscR l) : patchR [] l [] = l := by
  unfold patchR
  rw [List.foldl_nil, fold_with_asc l [] (by simpa using h)]
  rfl
theorem sane_asc {s : Store} (h : sanS s = true) : AscR (lastS s) := tabE_asc (sane_acc h).tab
theorem sane_ver {s : Store} (h : sanS s = true) : VerOk (lastS s) := by
  obtain ⟨h1, h2, h3⟩ := (sanS_iff s).1 h
  exact h3.verOk h2 (lastS_get (sane_pos h))
theorem lastS_new (n : Int) : lastS (newS n) = [] := rfl
theorem bare_nil {l : List Res} : bareL l = [] ↔ l = [] := by simp [bareL]
theorem one_E {s : Store} (h : sanS s = true) : propE (newS s.cap) (lastS s) [] = if lastS s = [] then 9 else 0 := by
  have ha := sane_acc h
  have hv := sane_ver h
  unfold propE propN
  rw [lastS_new, patch_into (sane_asc h)]
  have hc : (newS s.cap).cap = s.cap := (sane_cap h).symm
  rw [check_bare (by simp) (fun r hr => by simp at hr) (by simp [newS, rngB]) (by simp [newS]), hc]
  unfold checkB
  rw [tab_bare hv, miss_bare hv, served_bare hv, ha.tab, ha.miss, ha.served]
  have hlen := ha.len
  simp only [List.length_map]
  rw [if_pos trivial, if_neg (by omega), if_neg (by simp), if_neg (by simp)]
  by_cases e : lastS s = []
  · rw [if_pos e, if_pos (by rw [e])]
  · rw [if_neg e, if_neg]
    intro e2
    exact e (bare_nil.1 e2.symm)
theorem one_last {s : Store} (h : sanS s = true) : bareL (lastS (oneS s)) = bareL (lastS s) := by
  unfold oneS propS
  rw [one_E h]
  by_cases e : lastS s = []
  · rw [if_pos e, if_neg (by omega), lastS_new, e]
  · rw [if_neg e, if_pos rfl]
    have : lastS ⟨(newS s.cap).cap, (newS s.cap).hist ++ [propN (newS s.cap) (lastS s) []]⟩ = propN (newS s.cap) (lastS s) [] := by simp [lastS]
    rw [this]
    unfold propN
    rw [lastS_new, bare_stamp, patch_into (sane_asc h)]
theorem sane_one {s : Store} : sanS (oneS s) = true := sane_prop (sane_new _) _ _
theorem one_cap {s : Store} (h : sanS s = true) : (oneS s).cap = s.cap := by
  have hc : (newS s.cap).cap = s.cap := (sane_cap h).symm
  unfold oneS propS
  split <;> exact hc
theorem one_len (s : Store) : (oneS s).hist.length ≤ 2 := by
  unfold oneS propS
  split <;> simp [newS]
theorem alone_E {s : Store} (h : sanS s = true) (hl : s.hist.length < 100000) (adds : List Res) (gone : List Key) : propE (oneS s) adds gone = propE s adds gone := by
  have h1 := one_len s
  unfold propE propN
  rw [check_bare (sane_asc sane_one) (sane_ver sane_one) (by simp [rngB]; omega) (by omega), check_bare (sane_asc h) (sane_ver h) (by simp [rngB]; omega) hl, one_cap h, bare_patch, bare_patch, one_last h]
theorem alone_len {s : Store} (h : sanS s = true) (hl : s.hist.length < 100000) (adds : List Res) (gone : List Key) : (lastS (propS s adds gone)).length = (lastS (propS (oneS s) adds gone)).length := by
  unfold propS
  rw [alone_E h hl]
  have hb : ∀ (a b : List Res), bareL a = bareL b → a.length = b.length := fun a b e => by
    have := congrArg List.length e; simpa [bareL] using this
  split
  · have e1 : ∀ s : Store, lastS ⟨s.cap, s.hist ++ [propN s adds gone]⟩ = propN s adds gone := fun s => by simp [lastS]
    rw [e1, e1]
    apply hb
    unfold propN
    rw [bare_stamp, bare_stamp, bare_patch, bare_patch, one_last h]
  · exact (hb _ _ (one_last h)).symm
end Go.G
end
