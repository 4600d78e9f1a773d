/-
  LAYERS 5, 6, 9: maps as sets, stores, what listeners reach, histories, plainly.
-/
import Derived.Test.YtbmnaehodmgibaaGreatDoorPl
set_option linter.unusedSimpArgs false
set_option linter.unusedVariables false
section
namespace Go.G
open Go.AI
def keyVs (k : Key) : List Value := [.int .i64 k.kind, .string k.name]
theorem keyVs_inj {a b : Key} (h : keyVs a = keyVs b) : a = b := by
  obtain ⟨x, s⟩ := a; obtain ⟨y, t⟩ := b
  simp [keyVs] at h; rw [h.1, h.2]
/-- A map of keys: those of a list. -/
noncomputable def lookS (S : List Key) : List Value → Option (List D) := fun v => open Classical in if ∃ k, k ∈ S ∧ v = keyVs k then some [bD true] else none
theorem lookS_key (S : List Key) (k : Key) : lookS S (keyVs k) = if k ∈ S then some [bD true] else none := by
  unfold lookS
  by_cases h : k ∈ S
  · rw [if_pos ⟨k, h, rfl⟩, if_pos h]
  · rw [if_neg, if_neg h]
    rintro ⟨k', h1, h2⟩
    rw [keyVs_inj h2] at h; exact h h1
@[simp] theorem lookS_v (S : List Key) (a : Int) (s : Str) : lookV false [D.v (Value.bool false)] (lookS S [.int .i64 a, .string s]) = .d (bD (decide ((⟨a, s⟩ : Key) ∈ S))) := by
  have := lookS_key S ⟨a, s⟩
  simp only [keyVs] at this
  rw [this]
  by_cases h : (⟨a, s⟩ : Key) ∈ S <;> simp [h, lookV, vA]
@[simp] theorem lookS_some (S : List Key) (a : Int) (s : Str) : (lookS S [.int .i64 a, .string s]).isSome = decide ((⟨a, s⟩ : Key) ∈ S) := by
  have := lookS_key S ⟨a, s⟩
  simp only [keyVs] at this
  rw [this]
  by_cases h : (⟨a, s⟩ : Key) ∈ S <;> simp [h]
theorem lookS_nil : (fun _ => none) = lookS [] := by
  funext v; simp [lookS]
theorem updL_lookS (S : List Key) (k : Key) : updL (lookS S) (keyVs k) [bD true] = lookS (S ++ [k]) := by
  funext v
  unfold updL
  by_cases h : v = keyVs k
  · subst h
    rw [if_pos rfl, lookS_key, if_pos (by simp)]
  · rw [if_neg h]
    unfold lookS
    by_cases h2 : ∃ q, q ∈ S ∧ v = keyVs q
    · obtain ⟨q, h3, h4⟩ := h2
      rw [if_pos ⟨q, h3, h4⟩, if_pos ⟨q, by simp [h3], h4⟩]
    · rw [if_neg h2, if_neg]
      rintro ⟨q, h3, h4⟩
      rcases List.mem_append.1 h3 with h5 | h5
      · exact h2 ⟨q, h5, h4⟩
      · simp at h5; subst h5; exact h h4
@[simp] theorem updL_lookS' (S : List Key) (a : Int) (s : Str) : updL (lookS S) [.int .i64 a, .string s] [D.v (Value.bool true)] = lookS (S ++ [⟨a, s⟩]) := updL_lookS S ⟨a, s⟩
theorem look_in {S : List Key} {k : Key} (h : k ∈ S) : lookS S [.int .i64 k.kind, .string k.name] = some [bD true] := by
  have := lookS_key S k; rwa [if_pos h] at this
theorem look_out {S : List Key} {k : Key} (h : k ∉ S) : lookS S [.int .i64 k.kind, .string k.name] = none := by
  have := lookS_key S k; rwa [if_neg h] at this
@[simp] theorem take_len_map {α β : Type} (f : α → β) (l : List α) : List.take l.length (List.map f l) = List.map f l := by rw [← List.map_take, List.take_length]
/-- A map of numbers. -/
noncomputable def lookP (S : List Int) : List Value → Option (List D) := fun v => open Classical in if ∃ n, n ∈ S ∧ v = [.int .i64 n] then some [bD true] else none
theorem lookP_int (S : List Int) (n : Int) : lookP S [.int .i64 n] = if n ∈ S then some [bD true] else none := by
  unfold lookP
  by_cases h : n ∈ S
  · rw [if_pos ⟨n, h, rfl⟩, if_pos h]
  · rw [if_neg, if_neg h]
    rintro ⟨k', h1, h2⟩
    simp at h2; rw [h2] at h; exact h h1
@[simp] theorem lookP_v (S : List Int) (n : Int) : lookV false [D.v (Value.bool false)] (lookP S [.int .i64 n]) = .d (bD (decide (n ∈ S))) := by
  rw [lookP_int]
  by_cases h : n ∈ S <;> simp [h, lookV, vA]
theorem lookP_nil : (fun _ => none) = lookP [] := by
  funext v; simp [lookP]
@[simp] theorem updL_lookP (S : List Int) (n : Int) : updL (lookP S) [.int .i64 n] [D.v (Value.bool true)] = lookP (S ++ [n]) := by
  funext v
  unfold updL
  by_cases h : v = [.int .i64 n]
  · subst h
    rw [if_pos rfl, lookP_int, if_pos (by simp)]
  · rw [if_neg h]
    unfold lookP
    by_cases h2 : ∃ q, q ∈ S ∧ v = [Value.int .i64 q]
    · obtain ⟨q, h3, h4⟩ := h2
      rw [if_pos ⟨q, h3, h4⟩, if_pos ⟨q, by simp [h3], h4⟩]
    · rw [if_neg h2, if_neg]
      rintro ⟨q, h3, h4⟩
      rcases List.mem_append.1 h3 with h5 | h5
      · exact h2 ⟨q, h5, h4⟩
      · simp at h5; subst h5; exact h h4
theorem mem_keys {l : List Res} {k : Key} : k ∈ l.map Res.key ↔ (getR l k).isSome = true := by
  unfold getR
  rw [List.find?_isSome]
  simp
@[simp] theorem missP_nil (l : List Res) : missP [] l = [] := rfl
theorem missP_snoc (a : List Res) (x : Res) (l : List Res) : missP (a ++ [x]) l = missP a l ++ (refsK x).filter (noR l) := by
  simp [missP, List.flatMap_append, List.filter_append]
theorem missP_len : ∀ (a l : List Res), (missP a l).length ≤ 33 * a.length
  | [], l => by simp
  | r :: a, l => by
    have h1 := missP_len a l
    have h2 := refs_le33 r
    have h3 := List.length_filter_le (noR l) (refsK r)
    simp only [missP, List.flatMap_cons, List.filter_append, List.length_append, List.length_cons] at *
    omega
theorem missR_comp (l : List Res) : compK (sortK (missP l l)) = missR l := comp_sort _
theorem first_at {l : List Res} {k : Nat} {x : Res} (h : (l.take k).all (fun r => decide (saneE r = 0)) = true) (hr : l[k]? = some x) (hx : ¬ saneE x = 0) : firstE l = saneE x := by
  unfold firstE
  rw [find_at (k := k) (x := x) (by simpa using h) hr (by simpa using hx)]
theorem first_none {l : List Res} (h : l.all (fun r => decide (saneE r = 0)) = true) : firstE l = 0 := by
  unfold firstE
  rw [find_none (by simpa using h)]
theorem asc_snoc (a : List Res) (x : Res) (h : AscR a) (hl : ∀ y, a.getLast? = some y → cmpK y.key x.key = -1) : AscR (a ++ [x]) := by
  unfold AscR Asc at *
  rw [List.map_append, List.pairwise_append]
  refine ⟨h, by simp, fun y hy z hz => ?_⟩
  simp at hz; subst hz
  rcases List.eq_nil_or_concat a with e | ⟨b, w, e⟩
  · subst e; simp at hy
  · subst e
    have hw := hl w (by simp)
    simp only [List.concat_eq_append, List.map_append, List.map_cons, List.map_nil, List.mem_append, List.mem_singleton] at hy h
    rcases hy with hy | hy
    · have := (List.pairwise_append.1 h).2.2 y hy w.key (by simp)
      exact cmpK_trans this hw
    · rw [hy]; exact hw
theorem asc_no {l : List Res} {m : Nat} {y x : Res} (h : AscR l) (hy : l[m]? = some y) (hx : l[m + 1]? = some x) : cmpK y.key x.key = -1 := by
  unfold AscR Asc at h
  rw [List.pairwise_iff_getElem] at h
  obtain ⟨h1, e1⟩ := List.getElem?_eq_some_iff.1 hy
  obtain ⟨h2, e2⟩ := List.getElem?_eq_some_iff.1 hx
  have := h m (m + 1) (by simpa using h1) (by simpa using h2) (by omega)
  simpa [e1, e2] using this
theorem tabE_sane {l : List Res} (h : ¬ 64 < l.length) (h2 : ¬ firstE l = 0) : tabE l = firstE l := by simp [tabE, h, h2]
theorem tabE_asc' {l : List Res} (h : ¬ 64 < l.length) (h2 : firstE l = 0) (h3 : ¬ AscR l) : tabE l = 2 := by
  have : ascB l = false := by
    cases hb : ascB l
    · rfl
    · exact absurd ((ascB_iff l).1 hb) h3
  simp [tabE, h, h2, this]
theorem tabE_ports {l : List Res} (h : ¬ 64 < l.length) (h2 : firstE l = 0) (h3 : AscR l) : tabE l = if (portsR l).Nodup then 0 else 13 := by
  simp [tabE, h, h2, (ascB_iff l).2 h3]
theorem nodup_snoc {α : Type} {a : List α} {x : α} : (a ++ [x]).Nodup ↔ a.Nodup ∧ x ∉ a := by
  rw [List.nodup_append]
  simp
  intro _
  exact ⟨fun h hx => h x hx rfl, fun h y hy e => h (e ▸ hy)⟩
@[simp] theorem ascR_nil : AscR [] = True := eq_true (by simp [AscR, Asc])
theorem last_take {α : Type} {l : List α} {m : Nat} {y : α} (h : l[m]? = some y) : (l.take (m + 1)).getLast? = some y := by
  have hj := (List.getElem?_eq_some_iff.1 h).1
  rw [List.getLast?_eq_getElem?, List.length_take, List.getElem?_take, if_pos (by omega), show min (m + 1) l.length - 1 = m by omega]; exact h
theorem port_in {S : List Int} {n : Int} (h : n ∈ S) : lookP S [.int .i64 n] = some [bD true] := by rw [lookP_int, if_pos h]
theorem port_out {S : List Int} {n : Int} (h : n ∉ S) : lookP S [.int .i64 n] = none := by rw [lookP_int, if_neg h]
end Go.G
end
section
namespace Go.G
open Go.AI
theorem capN_idem (n : Int) : capN (capN n) = capN n := by unfold capN; omega
theorem capN_min (n : Int) : (if 0 < (if 64 < n then 64 else n) then (if 64 < n then (64 : Int) else n) else 0) = capN n := by
  unfold capN
  by_cases h : 64 < n
  · simp [h]; omega
  · by_cases h2 : 0 < n
    · simp [h, h2]; omega
    · simp [h, h2]; omega
theorem taken_nil {s : Store} (h : s.hist = []) : takenS s = newS s.cap := by simp [takenS, h]
theorem taken_some {s : Store} (h : ¬ s.hist = []) : takenS s = ⟨capN s.cap, s.hist⟩ := by simp [takenS, h]
abbrev atA (s : Store) (i : Int) : AV := .tup [lst (((atS s i).getD []).map resC), bool (atS s i).isSome]
abbrev findA (s : Store) (k : Key) (v : Int) : AV := .tup [st (resC ((findS s k v).getD zRes)), bool (findS s k v).isSome]
theorem at_neg {s : Store} {i : Int} (h : i < 0) : atS s i = none := by simp [atS]; omega
theorem at_big {s : Store} {i : Int} (h : ((takenS s).hist.length : Int) ≤ i) : atS s i = none := by
  unfold atS
  split
  · exact List.getElem?_eq_none (by omega)
  · rfl
theorem at_get {s : Store} {i : Int} (h0 : ¬ i < 0) (h : ¬ ((takenS s).hist.length : Int) ≤ i) : ∃ l, (∃ hh : i.toNat < (takenS s).hist.length, (takenS s).hist[i.toNat] = l) ∧ (takenS s).hist[i.toNat]? = some l ∧ atS s i = some l := by
  refine ⟨(takenS s).hist[i.toNat]'(by omega), ⟨by omega, rfl⟩, List.getElem?_eq_getElem _, ?_⟩
  unfold atS
  rw [if_pos (by omega)]
  exact List.getElem?_eq_getElem _
theorem ok_taken {s : Store} (h : OkStore s) : OkStore (takenS s) := by
  unfold takenS
  split
  · exact ⟨by simp [newS], fun l hl => by simp [newS] at hl; subst hl; exact ⟨by simp, by simp⟩⟩
  · exact ⟨h.len, h.all⟩
theorem ok_at {s : Store} (h : OkStore s) (i : Int) : OkRs ((atS s i).getD []) := by
  unfold atS
  split
  · cases hg : (takenS s).hist[i.toNat]? with
    | none => exact ⟨by simp, by simp⟩
    | some l => exact (ok_taken h).all l (List.mem_of_getElem? hg)
  · exact ⟨by simp, by simp⟩
theorem findS_none {s : Store} {k : Key} {v : Int} (h : getR ((atS s v).getD []) k = none) : findS s k v = none := by simp [findS, h]
theorem findS_some {s : Store} {k : Key} {v : Int} {r : Res} (h : getR ((atS s v).getD []) k = some r) : findS s k v = if r.ver = v then some r else none := by simp [findS, h]
theorem known_nil (s : Store) : knownV s [] = [] := rfl
theorem known_snoc (s : Store) (l : List Mark) (m : Mark) : knownV s (l ++ [m]) = withR (knownV s l) (ofM s m) := by simp [knownV, List.foldl_append]
def fewS (n : Nat) (s : Store) : Bool := s.hist.all fewL && decide (s.hist.length ≤ n)
end Go.G
end
section
namespace Go.G
open Go.AI
/-- A map of keys to what the first resource with that key names. -/
noncomputable def lookN (S : List Res) : List Value → Option (List D) := fun v => open Classical in if h : ∃ k, v = keyVs k then (getR S h.choose).map fun r => [lD ((refsK r).map keyC)] else none
theorem lookN_key (S : List Res) (k : Key) : lookN S (keyVs k) = (getR S k).map fun r => [lD ((refsK r).map keyC)] := by
  unfold lookN
  have h : ∃ q, keyVs k = keyVs q := ⟨k, rfl⟩
  rw [dif_pos h, ← keyVs_inj h.choose_spec]
theorem lookN_in {S : List Res} {k : Key} {r : Res} (h : getR S k = some r) : lookN S [.int .i64 k.kind, .string k.name] = some [lD ((refsK r).map keyC)] := by
  have := lookN_key S k; rw [h] at this; exact this
theorem lookN_out {S : List Res} {k : Key} (h : getR S k = none) : lookN S [.int .i64 k.kind, .string k.name] = none := by
  have := lookN_key S k; rw [h] at this; exact this
theorem lookN_nil : (fun _ => none) = lookN [] := by
  funext v
  unfold lookN
  split <;> simp [getR]
theorem getR_snoc (S : List Res) (x : Res) (k : Key) : getR (S ++ [x]) k = match getR S k with | some r => some r | none => if x.key = k then some x else none := by
  rw [getR_append]
  cases getR S k with
  | some r => rfl
  | none => by_cases h : x.key = k <;> simp [getR, h]
theorem updL_lookN {S : List Res} {x : Res} (h : getR S x.key = none) : updL (lookN S) [.int .i64 x.key.kind, .string x.key.name] [lD ((refsK x).map keyC)] = lookN (S ++ [x]) := by
  funext v
  unfold updL
  by_cases hv : v = [.int .i64 x.key.kind, .string x.key.name]
  · subst hv
    rw [if_pos rfl]
    have : getR (S ++ [x]) x.key = some x := by rw [getR_snoc, h]; simp
    rw [lookN_in this]
  · rw [if_neg hv]
    by_cases hk : ∃ k, v = keyVs k
    · obtain ⟨k, rfl⟩ := hk
      rw [lookN_key, lookN_key, getR_snoc]
      cases hg : getR S k with
      | some r => rfl
      | none =>
        have : ¬ x.key = k := by rintro rfl; exact hv rfl
        simp [this]
    · unfold lookN
      rw [dif_neg hk, dif_neg hk]
theorem asc_new {l : List Res} {k : Nat} {x : Res} (h : AscR l) (hr : l[k]? = some x) : getR (l.take k) x.key = none := by
  unfold getR
  rw [List.find?_eq_none]
  intro y hy
  simp only [decide_eq_true_eq]
  intro e
  obtain ⟨i, hi⟩ := List.getElem?_of_mem hy
  have hik : i < k := by
    have := (List.getElem?_eq_some_iff.1 hi).1
    simp at this; omega
  rw [List.getElem?_take, if_pos hik] at hi
  unfold AscR Asc at h
  rw [List.pairwise_iff_getElem] at h
  obtain ⟨h1, e1⟩ := List.getElem?_eq_some_iff.1 hi
  obtain ⟨h2, e2⟩ := List.getElem?_eq_some_iff.1 hr
  have := h i k (by simpa using h1) (by simpa using h2) hik
  simp only [List.getElem_map, e1, e2, e, cmpK_self] at this
  omega
/-- What a visit of a key leaves. -/
def visitF (l : List Res) : Nat → List Key → Key → List Key
  | 0, out, _ => out
  | n + 1, out, k => match getR l k with
    | none => out
    | some r => if k ∈ out then out else (refsK r).foldl (visitF l n) (out ++ [k])
def leftR (l : List Res) (out : List Key) : Nat := ((l.map Res.key).filter fun k => decide (k ∉ out)).length
theorem fold_sub {f : List Key → Key → List Key} (h : ∀ o k x, x ∈ o → x ∈ f o k) : ∀ (l : List Key) (o : List Key) (x : Key), x ∈ o → x ∈ l.foldl f o
  | [], _, _, hx => hx
  | k :: l, o, x, hx => fold_sub h l _ x (h o k x hx)
theorem visit_sub (l : List Res) : ∀ (n : Nat) (out : List Key) (k x : Key), x ∈ out → x ∈ visitF l n out k
  | 0, _, _, _, h => h
  | n + 1, out, k, x, h => by
    unfold visitF
    split
    · exact h
    · split
      · exact h
      · exact fold_sub (visit_sub l n) _ _ _ (by simp [h])
theorem left_le {l : List Res} {a b : List Key} (h : ∀ x, x ∈ a → x ∈ b) : leftR l b ≤ leftR l a := by
  unfold leftR
  induction l with
  | nil => simp
  | cons r l ih =>
    simp only [List.map_cons, List.filter_cons]
    by_cases hb : r.key ∈ b
    · by_cases ha : r.key ∈ a
      · simpa [ha, hb] using ih
      · simp only [hb, ha, not_true, not_false_iff, decide_true, decide_false, if_true, List.length_cons]
        simp only [Bool.false_eq_true, if_false]; omega
    · have ha : r.key ∉ a := fun h' => hb (h _ h')
      simpa [ha, hb] using ih
theorem left_lt {l : List Res} {out : List Key} {k : Key} (hk : k ∈ l.map Res.key) (ho : k ∉ out) : leftR l (out ++ [k]) < leftR l out := by
  unfold leftR
  induction l with
  | nil => simp at hk
  | cons r l ih =>
    have hle := left_le (l := l) (a := out) (b := out ++ [k]) (fun x hx => by simp [hx])
    unfold leftR at hle
    simp only [List.map_cons, List.filter_cons]
    by_cases hr : r.key = k
    · have h1 : r.key ∈ out ++ [k] := by simp [hr]
      have h2 : r.key ∉ out := by rw [hr]; exact ho
      simp only [h1, h2, not_true, not_false_iff, decide_true, decide_false, if_true, List.length_cons]
      simp only [Bool.false_eq_true, if_false]; omega
    · have hk' : k ∈ l.map Res.key := by
        simp only [List.map_cons, List.mem_cons] at hk
        exact hk.resolve_left (fun e => hr e.symm)
      have := ih hk'
      by_cases h2 : r.key ∈ out
      · have h1 : r.key ∈ out ++ [k] := by simp [h2]
        simpa [h1, h2] using this
      · have h1 : r.key ∉ out ++ [k] := by simp [h2, hr]
        simpa [h1, h2] using this
theorem left_len (l : List Res) (out : List Key) : leftR l out ≤ l.length := by
  have := List.length_filter_le (fun k => decide (k ∉ out)) (l.map Res.key)
  simpa [leftR] using this
def rootsR (l : List Res) : List Key := (l.filter fun r => decide (r.kind = 0)).map Res.key
def reachedL (l : List Res) : List Key := (rootsR l).foldl (visitF l (l.length + 1)) []
def reachR (l : List Res) : List Res := l.filter fun r => decide (r.key ∈ reachedL l)
def endless (r : Res) : Bool := decide (r.kind = 3) && decide (r.hosts.length = 0)
def servedE (l : List Res) : Int := if (reachR l).any fun r => (refsK r).any (noR l) then 6 else if (reachR l).any endless then 7 else 0
theorem rootsR_snoc (a : List Res) (x : Res) : rootsR (a ++ [x]) = rootsR a ++ (if x.kind = 0 then [x.key] else []) := by
  by_cases h : x.kind = 0 <;> simp [rootsR, List.filter_append, h]
end Go.G
end
section
namespace Go.G
open Go.AI
def checkE (cap : Int) (n : Nat) (now next : List Res) : Int :=
  if tabE next = 0 then (if cap < next.length then 8 else if ¬ (missR next).length = 0 then 6 else if ¬ servedE next = 0 then 7 else if now = next then 9 else if 100000 ≤ n then 8 else 0) else tabE next
def propN (s : Store) (adds : List Res) (gone : List Key) : List Res := stampR (lastS s) (patchR (lastS s) adds gone) s.hist.length
def propE (s : Store) (adds : List Res) (gone : List Key) : Int := checkE s.cap s.hist.length (lastS s) (propN s adds gone)
def propS (s : Store) (adds : List Res) (gone : List Key) : Store := if propE s adds gone = 0 then ⟨s.cap, s.hist ++ [propN s adds gone]⟩ else s
def saneGo : Store → List (List Res) → Bool
  | _, [] => true
  | t, l :: r => decide (propE t (diffA (lastS t) l) (diffG (lastS t) l) = 0) && decide (propN t (diffA (lastS t) l) (diffG (lastS t) l) = l) && saneGo ⟨t.cap, t.hist ++ [l]⟩ r
def sanS (s : Store) : Bool := decide (s.cap = capN s.cap) && decide (1 ≤ s.hist.length) && decide (s.hist.length ≤ 100000) && decide (s.hist.headD [] = []) && saneGo (newS s.cap) (s.hist.drop 1)
theorem check_tab {cap : Int} {n : Nat} {now next : List Res} (h : checkE cap n now next = 0) : tabE next = 0 := by
  unfold checkE at h
  split at h
  · assumption
  · exact h
theorem alike_eq {o r : Res} (h : alikeB o r = true) : { r with ver := o.ver } = o := by
  obtain ⟨a1, a2, a3, a4, a5, a6, a7⟩ := o
  obtain ⟨b1, b2, b3, b4, b5, b6, b7⟩ := r
  simp [alikeB] at h
  obtain ⟨⟨⟨⟨⟨h1, h2⟩, h3⟩, h4⟩, h5⟩, h6⟩ := h
  subst h1 h2 h3 h4 h5 h6
  rfl
theorem last_mem {s : Store} : lastS s = [] ∨ lastS s ∈ s.hist := by
  unfold lastS
  rw [List.getLastD_eq_getLast?]
  cases h : s.hist.getLast? with
  | none => exact .inl rfl
  | some l => exact .inr (List.mem_of_getLast? h)
end Go.G
end
section
namespace Go.G
open Go.AI
/-- The first resource with each key. -/
noncomputable def lookR (S : List Res) : List Value → Option (List D) := fun v => open Classical in if h : ∃ k, v = keyVs k then (getR S h.choose).map resC else none
theorem lookR_key (S : List Res) (k : Key) : lookR S (keyVs k) = (getR S k).map resC := by
  unfold lookR
  have h : ∃ q, keyVs k = keyVs q := ⟨k, rfl⟩
  rw [dif_pos h, ← keyVs_inj h.choose_spec]
theorem lookR_in {S : List Res} {k : Key} {r : Res} (h : getR S k = some r) : lookR S [.int .i64 k.kind, .string k.name] = some (resC r) := by
  have := lookR_key S k; rw [h] at this; exact this
theorem lookR_out {S : List Res} {k : Key} (h : getR S k = none) : lookR S [.int .i64 k.kind, .string k.name] = none := by
  have := lookR_key S k; rw [h] at this; exact this
theorem lookR_nil : (fun _ => none) = lookR [] := by
  funext v
  unfold lookR
  split <;> simp [getR]
theorem getR_cons' (x : Res) (S : List Res) (k : Key) : getR (x :: S) k = if x.key = k then some x else getR S k := by
  by_cases h : x.key = k <;> simp [getR, h]
theorem updL_lookR (S : List Res) (x : Res) : updL (lookR S) [.int .i64 x.key.kind, .string x.key.name] (resC x) = lookR (x :: S) := by
  funext v
  unfold updL
  by_cases hv : v = [.int .i64 x.key.kind, .string x.key.name]
  · subst hv
    rw [if_pos rfl]
    have : getR (x :: S) x.key = some x := by rw [getR_cons']; simp
    rw [lookR_in this]
  · rw [if_neg hv]
    by_cases hk : ∃ k, v = keyVs k
    · obtain ⟨k, rfl⟩ := hk
      have : ¬ x.key = k := by rintro rfl; exact hv rfl
      rw [lookR_key, lookR_key, getR_cons', if_neg this]
    · unfold lookR
      rw [dif_neg hk, dif_neg hk]
noncomputable abbrev idxD (S : List Res) : D := .mp true [.int, .str] true (lookR S)
end Go.G
end
