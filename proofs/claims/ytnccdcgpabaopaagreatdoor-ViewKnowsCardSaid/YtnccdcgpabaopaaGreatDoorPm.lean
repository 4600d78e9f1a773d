/-
  LAYERS 3, 9, 14: maps as sets, stores, plainly.
-/
import Derived.Test.YtnccdcgpabaopaaGreatDoorPl
set_option linter.unusedSimpArgs false
set_option linter.unusedVariables false
section
-- MAPS AS SETS OF KEYS, OF NUMBERS
namespace Go.G
open Go.AI
def keyVs (k : Key) : List Value := [.int .i64 k.kind, .string k.name]
theorem keyVs_inj {a b : Key} (h : keyVs a = keyVs b) : a = b := by
  obtain ⟨x, s⟩ := a; obtain ⟨y, t⟩ := b
  simp [keyVs] at h; rw [h.1, h.2]
/-- A map of keys: those of a list. -/
noncomputable def lookS (S : List Key) : List Value → Option (List D) := fun v => open Classical in if ∃ k, k ∈ S ∧ v = keyVs k then some [bD true] else none
theorem lookS_key (S : List Key) (k : Key) : lookS S (keyVs k) = if k ∈ S then some [bD true] else none := by
  unfold lookS
  by_cases h : k ∈ S
  · rw [if_pos ⟨k, h, rfl⟩, if_pos h]
  · rw [if_neg, if_neg h]
    rintro ⟨k', h1, h2⟩
    rw [keyVs_inj h2] at h; exact h h1
@[simp] theorem lookS_v (S : List Key) (a : Int) (s : Str) : lookV false [D.v (Value.bool false)] (lookS S [.int .i64 a, .string s]) = .d (bD (decide ((⟨a, s⟩ : Key) ∈ S))) := by
  have := lookS_key S ⟨a, s⟩
  simp only [keyVs] at this
  rw [this]
  by_cases h : (⟨a, s⟩ : Key) ∈ S <;> simp [h, lookV, vA]
@[simp] theorem lookS_some (S : List Key) (a : Int) (s : Str) : (lookS S [.int .i64 a, .string s]).isSome = decide ((⟨a, s⟩ : Key) ∈ S) := by
  have := lookS_key S ⟨a, s⟩
  simp only [keyVs] at this
  rw [this]
  by_cases h : (⟨a, s⟩ : Key) ∈ S <;> simp [h]
theorem lookS_nil : (fun _ => none) = lookS [] := by
  funext v; simp [lookS]
theorem lookS_congr {S T : List Key} (h : ∀ k, k ∈ S ↔ k ∈ T) : lookS S = lookS T := by
  funext v
  unfold lookS
  by_cases hh : ∃ k, k ∈ S ∧ v = keyVs k
  · rw [if_pos hh, if_pos]; obtain ⟨k, h1, h2⟩ := hh; exact ⟨k, (h k).1 h1, h2⟩
  · rw [if_neg hh, if_neg]; rintro ⟨k, h1, h2⟩; exact hh ⟨k, (h k).2 h1, h2⟩
theorem updL_lookS (S : List Key) (k : Key) : updL (lookS S) (keyVs k) [bD true] = lookS (S ++ [k]) := by
  funext v
  unfold updL
  by_cases h : v = keyVs k
  · subst h
    rw [if_pos rfl, lookS_key, if_pos (by simp)]
  · rw [if_neg h]
    unfold lookS
    by_cases h2 : ∃ q, q ∈ S ∧ v = keyVs q
    · obtain ⟨q, h3, h4⟩ := h2
      rw [if_pos ⟨q, h3, h4⟩, if_pos ⟨q, by simp [h3], h4⟩]
    · rw [if_neg h2, if_neg]
      rintro ⟨q, h3, h4⟩
      rcases List.mem_append.1 h3 with h5 | h5
      · exact h2 ⟨q, h5, h4⟩
      · simp at h5; subst h5; exact h h4
@[simp] theorem updL_lookS' (S : List Key) (a : Int) (s : Str) : updL (lookS S) [.int .i64 a, .string s] [D.v (Value.bool true)] = lookS (S ++ [⟨a, s⟩]) := updL_lookS S ⟨a, s⟩
theorem look_in {S : List Key} {k : Key} (h : k ∈ S) : lookS S [.int .i64 k.kind, .string k.name] = some [bD true] := by
  have := lookS_key S k; rwa [if_pos h] at this
theorem look_out {S : List Key} {k : Key} (h : k ∉ S) : lookS S [.int .i64 k.kind, .string k.name] = none := by
  have := lookS_key S k; rwa [if_neg h] at this
@[simp] theorem take_len_map {α β : Type} (f : α → β) (l : List α) : List.take l.length (List.map f l) = List.map f l := by rw [← List.map_take, List.take_length]
/-- A map of numbers. -/
noncomputable def lookP (S : List Int) : List Value → Option (List D) := fun v => open Classical in if ∃ n, n ∈ S ∧ v = [.int .i64 n] then some [bD true] else none
theorem lookP_int (S : List Int) (n : Int) : lookP S [.int .i64 n] = if n ∈ S then some [bD true] else none := by
  unfold lookP
  by_cases h : n ∈ S
  · rw [if_pos ⟨n, h, rfl⟩, if_pos h]
  · rw [if_neg, if_neg h]
    rintro ⟨k', h1, h2⟩
    simp at h2; rw [h2] at h; exact h h1
@[simp] theorem lookP_v (S : List Int) (n : Int) : lookV false [D.v (Value.bool false)] (lookP S [.int .i64 n]) = .d (bD (decide (n ∈ S))) := by
  rw [lookP_int]
  by_cases h : n ∈ S <;> simp [h, lookV, vA]
theorem lookP_nil : (fun _ => none) = lookP [] := by
  funext v; simp [lookP]
@[simp] theorem updL_lookP (S : List Int) (n : Int) : updL (lookP S) [.int .i64 n] [D.v (Value.bool true)] = lookP (S ++ [n]) := by
  funext v
  unfold updL
  by_cases h : v = [.int .i64 n]
  · subst h
    rw [if_pos rfl, lookP_int, if_pos (by simp)]
  · rw [if_neg h]
    unfold lookP
    by_cases h2 : ∃ q, q ∈ S ∧ v = [Value.int .i64 q]
    · obtain ⟨q, h3, h4⟩ := h2
      rw [if_pos ⟨q, h3, h4⟩, if_pos ⟨q, by simp [h3], h4⟩]
    · rw [if_neg h2, if_neg]
      rintro ⟨q, h3, h4⟩
      rcases List.mem_append.1 h3 with h5 | h5
      · exact h2 ⟨q, h5, h4⟩
      · simp at h5; subst h5; exact h h4
theorem mem_keys {l : List Res} {k : Key} : k ∈ l.map Res.key ↔ (getR l k).isSome = true := by
  unfold getR
  rw [List.find?_isSome]
  simp
theorem memB (l : List Res) (k : Key) : decide (k ∈ l.map Res.key) = (getR l k).isSome := by
  rw [Bool.eq_iff_iff, decide_eq_true_eq, mem_keys]
@[simp] theorem missP_nil (l : List Res) : missP [] l = [] := rfl
theorem missP_snoc (a : List Res) (x : Res) (l : List Res) : missP (a ++ [x]) l = missP a l ++ (refsK x).filter (noR l) := by
  simp [missP, List.flatMap_append, List.filter_append]
theorem missP_len : ∀ (a l : List Res), (missP a l).length ≤ 33 * a.length
  | [], l => by simp
  | r :: a, l => by
    have h1 := missP_len a l
    have h2 := refs_le33 r
    have h3 := List.length_filter_le (noR l) (refsK r)
    simp only [missP, List.flatMap_cons, List.filter_append, List.length_append, List.length_cons] at *
    omega
theorem missR_comp (l : List Res) : compK (sortK (missP l l)) = missR l := comp_sort _
theorem first_at {l : List Res} {k : Nat} {x : Res} (h : (l.take k).all (fun r => decide (saneE r = 0)) = true) (hr : l[k]? = some x) (hx : ¬ saneE x = 0) : firstE l = saneE x := by
  unfold firstE
  rw [find_at (k := k) (x := x) (by simpa using h) hr (by simpa using hx)]
theorem first_none {l : List Res} (h : l.all (fun r => decide (saneE r = 0)) = true) : firstE l = 0 := by
  unfold firstE
  rw [find_none (by simpa using h)]
theorem asc_snoc (a : List Res) (x : Res) (h : AscR a) (hl : ∀ y, a.getLast? = some y → cmpK y.key x.key = -1) : AscR (a ++ [x]) := by
  unfold AscR Asc at *
  rw [List.map_append, List.pairwise_append]
  refine ⟨h, by simp, fun y hy z hz => ?_⟩
  simp at hz; subst hz
  rcases List.eq_nil_or_concat a with e | ⟨b, w, e⟩
  · subst e; simp at hy
  · subst e
    have hw := hl w (by simp)
    simp only [List.concat_eq_append, List.map_append, List.map_cons, List.map_nil, List.mem_append, List.mem_singleton] at hy h
    rcases hy with hy | hy
    · have := (List.pairwise_append.1 h).2.2 y hy w.key (by simp)
      exact cmpK_trans this hw
    · rw [hy]; exact hw
theorem asc_take {l : List Res} (h : AscR l) (k : Nat) : AscR (l.take k) := by
  unfold AscR Asc at *
  rw [List.map_take]
  exact h.sublist (List.take_sublist _ _)
theorem asc_no {l : List Res} {m : Nat} {y x : Res} (h : AscR l) (hy : l[m]? = some y) (hx : l[m + 1]? = some x) : cmpK y.key x.key = -1 := by
  unfold AscR Asc at h
  rw [List.pairwise_iff_getElem] at h
  obtain ⟨h1, e1⟩ := List.getElem?_eq_some_iff.1 hy
  obtain ⟨h2, e2⟩ := List.getElem?_eq_some_iff.1 hx
  have := h m (m + 1) (by simpa using h1) (by simpa using h2) (by omega)
  simpa [e1, e2] using this
theorem tabE_sane {l : List Res} (h : ¬ 64 < l.length) (h2 : ¬ firstE l = 0) : tabE l = firstE l := by simp [tabE, h, h2]
theorem tabE_asc' {l : List Res} (h : ¬ 64 < l.length) (h2 : firstE l = 0) (h3 : ¬ AscR l) : tabE l = 2 := by
  have : ascB l = false := by
    cases hb : ascB l
    · rfl
    · exact absurd ((ascB_iff l).1 hb) h3
  simp [tabE, h, h2, this]
theorem tabE_ports {l : List Res} (h : ¬ 64 < l.length) (h2 : firstE l = 0) (h3 : AscR l) : tabE l = if (portsR l).Nodup then 0 else 13 := by
  simp [tabE, h, h2, (ascB_iff l).2 h3]
theorem nodup_snoc {α : Type} {a : List α} {x : α} : (a ++ [x]).Nodup ↔ a.Nodup ∧ x ∉ a := by
  rw [List.nodup_append]
  simp
  intro _
  exact ⟨fun h hx => h x hx rfl, fun h y hy e => h (e ▸ hy)⟩
@[simp] theorem ascR_nil : AscR [] = True := eq_true (by simp [AscR, Asc])
theorem last_take {α : Type} {l : List α} {m : Nat} {y : α} (h : l[m]? = some y) : (l.take (m + 1)).getLast? = some y := by
  have hj := (List.getElem?_eq_some_iff.1 h).1
  rw [List.getLast?_eq_getElem?, List.length_take, List.getElem?_take, if_pos (by omega), show min (m + 1) l.length - 1 = m by omega]; exact h
theorem port_in {S : List Int} {n : Int} (h : n ∈ S) : lookP S [.int .i64 n] = some [bD true] := by rw [lookP_int, if_pos h]
theorem port_out {S : List Int} {n : Int} (h : n ∉ S) : lookP S [.int .i64 n] = none := by rw [lookP_int, if_neg h]
end Go.G
end
section
-- STORES, PLAINLY
namespace Go.G
open Go.AI
theorem capN_idem (n : Int) : capN (capN n) = capN n := by unfold capN; omega
theorem capN_min (n : Int) : (if 0 < (if 64 < n then 64 else n) then (if 64 < n then (64 : Int) else n) else 0) = capN n := by
  unfold capN
  by_cases h : 64 < n
  · simp [h]; omega
  · by_cases h2 : 0 < n
    · simp [h, h2]; omega
    · simp [h, h2]; omega
theorem taken_nil {s : Store} (h : s.hist = []) : takenS s = newS s.cap := by simp [takenS, h]
theorem taken_some {s : Store} (h : ¬ s.hist = []) : takenS s = ⟨capN s.cap, s.hist⟩ := by simp [takenS, h]
abbrev atA (s : Store) (i : Int) : AV := .tup [lst (((atS s i).getD []).map resC), bool (atS s i).isSome]
abbrev findA (s : Store) (k : Key) (v : Int) : AV := .tup [st (resC ((findS s k v).getD zRes)), bool (findS s k v).isSome]
theorem at_neg {s : Store} {i : Int} (h : i < 0) : atS s i = none := by simp [atS]; omega
theorem at_big {s : Store} {i : Int} (h : ((takenS s).hist.length : Int) ≤ i) : atS s i = none := by
  unfold atS
  split
  · exact List.getElem?_eq_none (by omega)
  · rfl
theorem at_get {s : Store} {i : Int} (h0 : ¬ i < 0) (h : ¬ ((takenS s).hist.length : Int) ≤ i) : ∃ l, (∃ hh : i.toNat < (takenS s).hist.length, (takenS s).hist[i.toNat] = l) ∧ (takenS s).hist[i.toNat]? = some l ∧ atS s i = some l := by
  refine ⟨(takenS s).hist[i.toNat]'(by omega), ⟨by omega, rfl⟩, List.getElem?_eq_getElem _, ?_⟩
  unfold atS
  rw [if_pos (by omega)]
  exact List.getElem?_eq_getElem _
theorem ok_taken {s : Store} (h : OkStore s) : OkStore (takenS s) := by
  unfold takenS
  split
  · exact ⟨by simp [newS], fun l hl => by simp [newS] at hl; subst hl; exact ⟨by simp, by simp⟩⟩
  · exact ⟨h.len, h.all⟩
theorem ok_at {s : Store} (h : OkStore s) (i : Int) : OkRs ((atS s i).getD []) := by
  unfold atS
  split
  · cases hg : (takenS s).hist[i.toNat]? with
    | none => exact ⟨by simp, by simp⟩
    | some l => exact (ok_taken h).all l (List.mem_of_getElem? hg)
  · exact ⟨by simp, by simp⟩
theorem findS_none {s : Store} {k : Key} {v : Int} (h : getR ((atS s v).getD []) k = none) : findS s k v = none := by simp [findS, h]
theorem findS_some {s : Store} {k : Key} {v : Int} {r : Res} (h : getR ((atS s v).getD []) k = some r) : findS s k v = if r.ver = v then some r else none := by simp [findS, h]
theorem find_nB {s : Store} (h : OkStore s) {m : Mark} (hm : nB m.k.name) : nB (ofM s m).name := by
  have := ofM_key s m
  have e : (ofM s m).name = m.k.name := congrArg Key.name this
  rw [e]; exact hm
theorem known_nil (s : Store) : knownV s [] = [] := rfl
theorem known_snoc (s : Store) (l : List Mark) (m : Mark) : knownV s (l ++ [m]) = withR (knownV s l) (ofM s m) := by simp [knownV, List.foldl_append]
def fewS (n : Nat) (s : Store) : Bool := s.hist.all fewL && decide (s.hist.length ≤ n)
theorem fewS_b {n : Nat} {s : Store} (h : fewS n s = true) : (∀ l ∈ s.hist, l.length ≤ 80) ∧ s.hist.length ≤ n := by
  simp only [fewS, Bool.and_eq_true, List.all_eq_true, decide_eq_true_eq] at h
  exact ⟨fun l hl => fewL_len (h.1 l hl), h.2⟩
theorem at_len {n : Nat} {s : Store} (h : fewS n s = true) (i : Int) : ((atS s i).getD []).length ≤ 80 := by
  have hb := (fewS_b h).1
  unfold atS
  split
  · cases hg : (takenS s).hist[i.toNat]? with
    | none => simp
    | some l =>
      have hm := List.mem_of_getElem? hg
      unfold takenS at hm
      split at hm
      · simp [newS] at hm; subst hm; simp
      · exact hb l hm
  · simp
theorem ok_of {s : Store} (h : OkStore s) {m : Mark} (hm : nB m.k.name) : OkRes (ofM s m) := by
  unfold ofM
  cases hf : findS s m.k m.ver with
  | none => exact ⟨hm, by simp [bareR, nB, bs], by simp [bareR], by simp [bareR], by simp [bareR]⟩
  | some r =>
    simp only [Option.getD_some]
    unfold findS at hf
    split at hf
    · rename_i q hq
      split at hf
      · cases hf; exact (ok_at h m.ver).all _ (getR_mem hq)
      · cases hf
    · cases hf
theorem ok_known {s : Store} (h : OkStore s) {l : List Mark} (hn : ∀ m ∈ l, nB m.k.name) (hl : l.length ≤ 9223372036854775807) : OkRs (knownV s l) := by
  refine ⟨Nat.le_trans (known_len s l) hl, fun r hr => ?_⟩
  rcases mem_fold_with hr with h1 | h1
  · simp at h1
  · simp only [List.mem_map] at h1
    obtain ⟨m, hm, rfl⟩ := h1
    exact ok_of h (hn m hm)
end Go.G
end
